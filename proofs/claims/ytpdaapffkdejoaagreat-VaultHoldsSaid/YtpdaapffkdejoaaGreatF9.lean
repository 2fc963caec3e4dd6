/- Characteristic formulae of Go functions, and that they are. Printed by gen.py (own tool). -/
import Derived.Test.YtpdaapffkdejoaaGreatTy
namespace Go.Proofs.YtpdaapffkdejoaaGreat.Cf
open Go
set_option maxRecDepth 100000
set_option maxHeartbeats 1000000
set_option linter.unusedVariables false
set_option linter.unusedSimpArgs false

-- math/bits.Mul64
def F91 (x_1 : Int) (y_2 : Int) (w : World) (R : (Int × Int) → World → Prop) : Prop :=
  ex (Shift (32 : Int) (Int.fdiv x_1 (2 ^ (min ((32 : Int)).toNat IntKind.u64.bits)))) fun d3 =>
  ex (Shift (32 : Int) (Int.fdiv y_2 (2 ^ (min ((32 : Int)).toNat IntKind.u64.bits)))) fun d4 =>
  ex (Shift (32 : Int) (Int.fdiv (IntKind.u64.wrap ((bits .and .u64 x_1 (4294967295 : Int)) * (bits .and .u64 y_2 (4294967295 : Int)))) (2 ^ (min ((32 : Int)).toNat IntKind.u64.bits)))) fun d5 =>
  ex (Shift (32 : Int) (Int.fdiv (IntKind.u64.wrap ((IntKind.u64.wrap (d3 * (bits .and .u64 y_2 (4294967295 : Int)))) + d5)) (2 ^ (min ((32 : Int)).toNat IntKind.u64.bits)))) fun d6 =>
  ex (Shift (32 : Int) (Int.fdiv (IntKind.u64.wrap ((bits .and .u64 (IntKind.u64.wrap ((IntKind.u64.wrap (d3 * (bits .and .u64 y_2 (4294967295 : Int)))) + d5)) (4294967295 : Int)) + (IntKind.u64.wrap ((bits .and .u64 x_1 (4294967295 : Int)) * d4)))) (2 ^ (min ((32 : Int)).toNat IntKind.u64.bits)))) fun d7 =>
  R ((IntKind.u64.wrap ((IntKind.u64.wrap ((IntKind.u64.wrap (d3 * d4)) + d6)) + d7)), (IntKind.u64.wrap (x_1 * y_2))) w
theorem F91_ok {x_1 : Int} {y_2 : Int} {w : World} {R : (Int × Int) → World → Prop} (h : F91 x_1 y_2 w R) : cl Tryz.prog 91 [.int .u64 (x_1), .int .u64 (y_2)] (tTup2 (tInt .u64) (tInt .u64)) w R := by
  unfold F91 at h
  refine calls_start 51 Tryz.func91 rfl rfl (Nat.le_of_ble_eq_true rfl) ?_
  refine wp_seq ?_
  refine wp_text [0, 1] rfl ?_
  refine rv 4 rfl rfl rfl (q_assign (v := .int .u64 ((0 : Int))) rfl rfl) ?_
  refine rv 5 rfl rfl rfl (q_assign (v := .int .u64 ((0 : Int))) rfl rfl) ?_
  refine ro_nil ?_
  refine wp_seq ?_
  refine wp_text [0, 1, 2] rfl ?_
  refine rv 14 rfl rfl rfl (q_move (v := .int .u64 (x_1)) rfl rfl) ?_
  refine rv 15 rfl rfl rfl (q_and (a := x_1) (b := (4294967295 : Int)) rfl rfl rfl) ?_
  refine rv 6 rfl rfl rfl (q_assign (v := .int .u64 ((bits .and .u64 x_1 (4294967295 : Int)))) rfl rfl) ?_
  refine ro_nil ?_
  refine wp_seq ?_
  refine wp_text [0, 1, 2] rfl ?_
  refine rv 16 rfl rfl rfl (q_move (v := .int .u64 (x_1)) rfl rfl) ?_
  obtain ⟨d3, hd3, h⟩ := h
  refine rv 17 rfl rfl rfl (q_shr (a := x_1) (b := (32 : Int)) (r := d3) rfl rfl rfl hd3) ?_
  refine rv 7 rfl rfl rfl (q_assign (v := .int .u64 (d3)) rfl rfl) ?_
  refine ro_nil ?_
  refine wp_seq ?_
  refine wp_text [0, 1, 2] rfl ?_
  refine rv 18 rfl rfl rfl (q_move (v := .int .u64 (y_2)) rfl rfl) ?_
  refine rv 19 rfl rfl rfl (q_and (a := y_2) (b := (4294967295 : Int)) rfl rfl rfl) ?_
  refine rv 8 rfl rfl rfl (q_assign (v := .int .u64 ((bits .and .u64 y_2 (4294967295 : Int)))) rfl rfl) ?_
  refine ro_nil ?_
  refine wp_seq ?_
  refine wp_text [0, 1, 2] rfl ?_
  refine rv 20 rfl rfl rfl (q_move (v := .int .u64 (y_2)) rfl rfl) ?_
  obtain ⟨d4, hd4, h⟩ := h
  refine rv 21 rfl rfl rfl (q_shr (a := y_2) (b := (32 : Int)) (r := d4) rfl rfl rfl hd4) ?_
  refine rv 9 rfl rfl rfl (q_assign (v := .int .u64 (d4)) rfl rfl) ?_
  refine ro_nil ?_
  refine wp_seq ?_
  refine wp_text [0, 1, 2, 3] rfl ?_
  refine rv 22 rfl rfl rfl (q_move (v := .int .u64 ((bits .and .u64 x_1 (4294967295 : Int)))) rfl rfl) ?_
  refine rv 23 rfl rfl rfl (q_move (v := .int .u64 ((bits .and .u64 y_2 (4294967295 : Int)))) rfl rfl) ?_
  refine rv 24 rfl rfl rfl (q_mul (a := (bits .and .u64 x_1 (4294967295 : Int))) (b := (bits .and .u64 y_2 (4294967295 : Int))) rfl rfl rfl) ?_
  refine rv 10 rfl rfl rfl (q_assign (v := .int .u64 ((IntKind.u64.wrap ((bits .and .u64 x_1 (4294967295 : Int)) * (bits .and .u64 y_2 (4294967295 : Int)))))) rfl rfl) ?_
  refine ro_nil ?_
  refine wp_seq ?_
  refine wp_text [0, 1, 2, 3, 4, 5, 6] rfl ?_
  refine rv 25 rfl rfl rfl (q_move (v := .int .u64 (d3)) rfl rfl) ?_
  refine rv 26 rfl rfl rfl (q_move (v := .int .u64 ((bits .and .u64 y_2 (4294967295 : Int)))) rfl rfl) ?_
  refine rv 27 rfl rfl rfl (q_mul (a := d3) (b := (bits .and .u64 y_2 (4294967295 : Int))) rfl rfl rfl) ?_
  refine rv 28 rfl rfl rfl (q_move (v := .int .u64 ((IntKind.u64.wrap ((bits .and .u64 x_1 (4294967295 : Int)) * (bits .and .u64 y_2 (4294967295 : Int)))))) rfl rfl) ?_
  obtain ⟨d5, hd5, h⟩ := h
  refine rv 29 rfl rfl rfl (q_shr (a := (IntKind.u64.wrap ((bits .and .u64 x_1 (4294967295 : Int)) * (bits .and .u64 y_2 (4294967295 : Int))))) (b := (32 : Int)) (r := d5) rfl rfl rfl hd5) ?_
  refine rv 30 rfl rfl rfl (q_add (a := (IntKind.u64.wrap (d3 * (bits .and .u64 y_2 (4294967295 : Int))))) (b := d5) rfl rfl rfl) ?_
  refine rv 11 rfl rfl rfl (q_assign (v := .int .u64 ((IntKind.u64.wrap ((IntKind.u64.wrap (d3 * (bits .and .u64 y_2 (4294967295 : Int)))) + d5)))) rfl rfl) ?_
  refine ro_nil ?_
  refine wp_seq ?_
  refine wp_text [0, 1, 2] rfl ?_
  refine rv 31 rfl rfl rfl (q_move (v := .int .u64 ((IntKind.u64.wrap ((IntKind.u64.wrap (d3 * (bits .and .u64 y_2 (4294967295 : Int)))) + d5)))) rfl rfl) ?_
  refine rv 32 rfl rfl rfl (q_and (a := (IntKind.u64.wrap ((IntKind.u64.wrap (d3 * (bits .and .u64 y_2 (4294967295 : Int)))) + d5))) (b := (4294967295 : Int)) rfl rfl rfl) ?_
  refine rv 12 rfl rfl rfl (q_assign (v := .int .u64 ((bits .and .u64 (IntKind.u64.wrap ((IntKind.u64.wrap (d3 * (bits .and .u64 y_2 (4294967295 : Int)))) + d5)) (4294967295 : Int)))) rfl rfl) ?_
  refine ro_nil ?_
  refine wp_seq ?_
  refine wp_text [0, 1, 2] rfl ?_
  refine rv 33 rfl rfl rfl (q_move (v := .int .u64 ((IntKind.u64.wrap ((IntKind.u64.wrap (d3 * (bits .and .u64 y_2 (4294967295 : Int)))) + d5)))) rfl rfl) ?_
  obtain ⟨d6, hd6, h⟩ := h
  refine rv 34 rfl rfl rfl (q_shr (a := (IntKind.u64.wrap ((IntKind.u64.wrap (d3 * (bits .and .u64 y_2 (4294967295 : Int)))) + d5))) (b := (32 : Int)) (r := d6) rfl rfl rfl hd6) ?_
  refine rv 13 rfl rfl rfl (q_assign (v := .int .u64 (d6)) rfl rfl) ?_
  refine ro_nil ?_
  refine wp_seq ?_
  refine wp_text [0, 1, 2, 3, 4, 5] rfl ?_
  refine rv 35 rfl rfl rfl (q_move (v := .int .u64 ((bits .and .u64 (IntKind.u64.wrap ((IntKind.u64.wrap (d3 * (bits .and .u64 y_2 (4294967295 : Int)))) + d5)) (4294967295 : Int)))) rfl rfl) ?_
  refine rv 36 rfl rfl rfl (q_move (v := .int .u64 ((bits .and .u64 x_1 (4294967295 : Int)))) rfl rfl) ?_
  refine rv 37 rfl rfl rfl (q_move (v := .int .u64 (d4)) rfl rfl) ?_
  refine rv 38 rfl rfl rfl (q_mul (a := (bits .and .u64 x_1 (4294967295 : Int))) (b := d4) rfl rfl rfl) ?_
  refine rv 39 rfl rfl rfl (q_add (a := (bits .and .u64 (IntKind.u64.wrap ((IntKind.u64.wrap (d3 * (bits .and .u64 y_2 (4294967295 : Int)))) + d5)) (4294967295 : Int))) (b := (IntKind.u64.wrap ((bits .and .u64 x_1 (4294967295 : Int)) * d4))) rfl rfl rfl) ?_
  refine rv 12 rfl rfl rfl (q_assign (v := .int .u64 ((IntKind.u64.wrap ((bits .and .u64 (IntKind.u64.wrap ((IntKind.u64.wrap (d3 * (bits .and .u64 y_2 (4294967295 : Int)))) + d5)) (4294967295 : Int)) + (IntKind.u64.wrap ((bits .and .u64 x_1 (4294967295 : Int)) * d4)))))) rfl rfl) ?_
  refine ro_nil ?_
  refine wp_seq ?_
  refine wp_text [0, 1, 2, 3, 4, 5, 6, 7, 8] rfl ?_
  refine rv 40 rfl rfl rfl (q_move (v := .int .u64 (d3)) rfl rfl) ?_
  refine rv 41 rfl rfl rfl (q_move (v := .int .u64 (d4)) rfl rfl) ?_
  refine rv 42 rfl rfl rfl (q_mul (a := d3) (b := d4) rfl rfl rfl) ?_
  refine rv 43 rfl rfl rfl (q_move (v := .int .u64 (d6)) rfl rfl) ?_
  refine rv 44 rfl rfl rfl (q_add (a := (IntKind.u64.wrap (d3 * d4))) (b := d6) rfl rfl rfl) ?_
  refine rv 45 rfl rfl rfl (q_move (v := .int .u64 ((IntKind.u64.wrap ((bits .and .u64 (IntKind.u64.wrap ((IntKind.u64.wrap (d3 * (bits .and .u64 y_2 (4294967295 : Int)))) + d5)) (4294967295 : Int)) + (IntKind.u64.wrap ((bits .and .u64 x_1 (4294967295 : Int)) * d4)))))) rfl rfl) ?_
  obtain ⟨d7, hd7, h⟩ := h
  refine rv 46 rfl rfl rfl (q_shr (a := (IntKind.u64.wrap ((bits .and .u64 (IntKind.u64.wrap ((IntKind.u64.wrap (d3 * (bits .and .u64 y_2 (4294967295 : Int)))) + d5)) (4294967295 : Int)) + (IntKind.u64.wrap ((bits .and .u64 x_1 (4294967295 : Int)) * d4))))) (b := (32 : Int)) (r := d7) rfl rfl rfl hd7) ?_
  refine rv 47 rfl rfl rfl (q_add (a := (IntKind.u64.wrap ((IntKind.u64.wrap (d3 * d4)) + d6))) (b := d7) rfl rfl rfl) ?_
  refine rv 4 rfl rfl rfl (q_assign (v := .int .u64 ((IntKind.u64.wrap ((IntKind.u64.wrap ((IntKind.u64.wrap (d3 * d4)) + d6)) + d7)))) rfl rfl) ?_
  refine ro_nil ?_
  refine wp_seq ?_
  refine wp_text [0, 1, 2, 3] rfl ?_
  refine rv 48 rfl rfl rfl (q_move (v := .int .u64 (x_1)) rfl rfl) ?_
  refine rv 49 rfl rfl rfl (q_move (v := .int .u64 (y_2)) rfl rfl) ?_
  refine rv 50 rfl rfl rfl (q_mul (a := x_1) (b := y_2) rfl rfl rfl) ?_
  refine rv 5 rfl rfl rfl (q_assign (v := .int .u64 ((IntKind.u64.wrap (x_1 * y_2)))) rfl rfl) ?_
  refine ro_nil ?_
  refine wp_ret ?_
  exact ret_ok rfl (.cons (.tmp (v := .int .u64 ((IntKind.u64.wrap ((IntKind.u64.wrap ((IntKind.u64.wrap (d3 * d4)) + d6)) + d7)))) rfl) (.cons (.tmp (v := .int .u64 ((IntKind.u64.wrap (x_1 * y_2)))) rfl) .nil)) ⟨((IntKind.u64.wrap ((IntKind.u64.wrap ((IntKind.u64.wrap (d3 * d4)) + d6)) + d7)), (IntKind.u64.wrap (x_1 * y_2))), rfl, h⟩

-- moiety/num.size
def F92 (n_1 : Int) (w : World) (R : Int → World → Prop) : Prop :=
  if (decide (n_1 < (0 : Int))) = true then (
    R (IntKind.u64.wrap (0 - (IntKind.u64.wrap n_1))) w
  ) else (
    R (IntKind.u64.wrap n_1) w
  )
theorem F92_ok {n_1 : Int} {w : World} {R : Int → World → Prop} (h : F92 n_1 w R) : cl Tryz.prog 92 [.int .i64 (n_1)] (tInt .u64) w R := by
  unfold F92 at h
  refine calls_start 10 Tryz.func92 rfl rfl (Nat.le_of_ble_eq_true rfl) ?_
  refine wp_seq ?_
  refine wp_text [0] rfl ?_
  refine rv 2 rfl rfl rfl (q_assign (v := .int .u64 ((0 : Int))) rfl rfl) ?_
  refine ro_nil ?_
  refine wp_seq ?_
  refine wp_seq ?_
  refine wp_text [0, 1] rfl ?_
  refine rv 3 rfl rfl rfl (q_move (v := .int .i64 (n_1)) rfl rfl) ?_
  refine rv 4 rfl rfl rfl (q_lss (a := n_1) (b := (0 : Int)) rfl rfl rfl) ?_
  refine ro_nil ?_
  refine wp_if (b := (decide (n_1 < (0 : Int)))) rfl h (fun hb2 h => ?_) (fun hb2 h => ?_)
  · refine wp_seq ?_
    refine wp_text [0, 1, 2, 3] rfl ?_
    refine rv 5 rfl rfl rfl (q_move (v := .int .i64 (n_1)) rfl rfl) ?_
    refine rv 6 rfl rfl rfl (q_cvtI (a := n_1) rfl Tryz.underlying2 Tryz.underlying122 rfl) ?_
    refine rv 7 rfl rfl rfl (q_neg (a := (IntKind.u64.wrap n_1)) rfl rfl) ?_
    refine rv 2 rfl rfl rfl (q_assign (v := .int .u64 ((IntKind.u64.wrap (0 - (IntKind.u64.wrap n_1))))) rfl rfl) ?_
    refine ro_nil ?_
    refine wp_ret ?_
    exact ret_ok rfl (.cons (.tmp (v := .int .u64 ((IntKind.u64.wrap (0 - (IntKind.u64.wrap n_1))))) rfl) .nil) ⟨(IntKind.u64.wrap (0 - (IntKind.u64.wrap n_1))), rfl, h⟩
  · refine wp_skip ?_
    refine wp_seq ?_
    refine wp_text [0, 1, 2] rfl ?_
    refine rv 8 rfl rfl rfl (q_move (v := .int .i64 (n_1)) rfl rfl) ?_
    refine rv 9 rfl rfl rfl (q_cvtI (a := n_1) rfl Tryz.underlying2 Tryz.underlying122 rfl) ?_
    refine rv 2 rfl rfl rfl (q_assign (v := .int .u64 ((IntKind.u64.wrap n_1))) rfl rfl) ?_
    refine ro_nil ?_
    refine wp_ret ?_
    exact ret_ok rfl (.cons (.tmp (v := .int .u64 ((IntKind.u64.wrap n_1))) rfl) .nil) ⟨(IntKind.u64.wrap n_1), rfl, h⟩

-- moiety/num.signed
def F93 (neg_1 : Bool) (n_2 : Int) (w : World) (R : (Int × Int) → World → Prop) : Prop :=
  if (neg_1 && (decide (n_2 ≤ (9223372036854775808 : Int)))) = true then (
    R ((IntKind.i64.wrap (0 - (IntKind.i64.wrap n_2))), (0 : Int)) w
  ) else (
    if ((!neg_1) && (decide (n_2 < (9223372036854775808 : Int)))) = true then (
      R ((IntKind.i64.wrap n_2), (0 : Int)) w
    ) else (
      R ((0 : Int), (11 : Int)) w
    )
  )
theorem F93_ok {neg_1 : Bool} {n_2 : Int} {w : World} {R : (Int × Int) → World → Prop} (h : F93 neg_1 n_2 w R) : cl Tryz.prog 93 [.bool (neg_1), .int .u64 (n_2)] (tTup2 (tInt .i64) (tInt .i64)) w R := by
  unfold F93 at h
  refine calls_start 24 Tryz.func93 rfl rfl (Nat.le_of_ble_eq_true rfl) ?_
  refine wp_seq ?_
  refine wp_text [0, 1] rfl ?_
  refine rv 4 rfl rfl rfl (q_assign (v := .int .i64 ((0 : Int))) rfl rfl) ?_
  refine rv 5 rfl rfl rfl (q_assign (v := .int .i64 ((0 : Int))) rfl rfl) ?_
  refine ro_nil ?_
  refine wp_seq ?_
  refine wp_block ?_
  refine wp_seq ?_
  refine wp_text [0, 1, 2, 3, 4, 5] rfl ?_
  refine rv 7 rfl rfl rfl (q_move (v := .bool (neg_1)) rfl rfl) ?_
  refine rv 8 rfl rfl rfl (q_move (v := .bool (neg_1)) rfl rfl) ?_
  refine ro_gval (g := neg_1) (d := (some 9)) rfl (.yes 1 8 true neg_1 rfl rfl rfl rfl) rfl (fun hg => q_move (v := .int .u64 (n_2)) rfl rfl) ?_
  refine ro_gval (g := neg_1) (d := (some 10)) rfl (.yes 1 8 true neg_1 rfl rfl rfl rfl) rfl (fun hg => q_leq (k := .u64) (a := n_2) (b := (9223372036854775808 : Int)) rfl (gvb_yes hg) rfl) ?_
  refine rv 11 rfl rfl rfl (q_pickGT (a := neg_1) (b := (decide (n_2 ≤ (9223372036854775808 : Int)))) rfl rfl rfl rfl) ?_
  refine rv 6 rfl rfl rfl (q_assign (v := .bool ((neg_1 && (decide (n_2 ≤ (9223372036854775808 : Int)))))) rfl rfl) ?_
  refine ro_nil ?_
  refine wp_if (b := (neg_1 && (decide (n_2 ≤ (9223372036854775808 : Int))))) rfl h (fun hb4 h => ?_) (fun hb4 h => ?_)
  · refine wp_seq ?_
    refine wp_text [0, 1, 2, 3, 4] rfl ?_
    refine rv 12 rfl rfl rfl (q_move (v := .int .u64 (n_2)) rfl rfl) ?_
    refine rv 13 rfl rfl rfl (q_cvtI (a := n_2) rfl Tryz.underlying122 Tryz.underlying2 rfl) ?_
    refine rv 14 rfl rfl rfl (q_neg (a := (IntKind.i64.wrap n_2)) rfl rfl) ?_
    refine rv 4 rfl rfl rfl (q_assign (v := .int .i64 ((IntKind.i64.wrap (0 - (IntKind.i64.wrap n_2))))) rfl rfl) ?_
    refine rv 5 rfl rfl rfl (q_assign (v := .int .i64 ((0 : Int))) rfl rfl) ?_
    refine ro_nil ?_
    refine wp_ret ?_
    exact ret_ok rfl (.cons (.tmp (v := .int .i64 ((IntKind.i64.wrap (0 - (IntKind.i64.wrap n_2))))) rfl) (.cons (.tmp (v := .int .i64 ((0 : Int))) rfl) .nil)) ⟨((IntKind.i64.wrap (0 - (IntKind.i64.wrap n_2))), (0 : Int)), rfl, h⟩
  · refine wp_seq ?_
    refine wp_text [0, 1, 2, 3, 4, 5, 6] rfl ?_
    refine rv 16 rfl rfl rfl (q_move (v := .bool (neg_1)) rfl rfl) ?_
    refine rv 17 rfl rfl rfl (q_not (b := neg_1) rfl rfl) ?_
    refine rv 18 rfl rfl rfl (q_move (v := .bool ((!neg_1))) rfl rfl) ?_
    refine ro_gval (g := (!neg_1)) (d := (some 19)) rfl (.yes 2 18 true (!neg_1) rfl rfl rfl rfl) rfl (fun hg => q_move (v := .int .u64 (n_2)) rfl rfl) ?_
    refine ro_gval (g := (!neg_1)) (d := (some 20)) rfl (.yes 2 18 true (!neg_1) rfl rfl rfl rfl) rfl (fun hg => q_lss (k := .u64) (a := n_2) (b := (9223372036854775808 : Int)) rfl (gvb_yes hg) rfl) ?_
    refine rv 21 rfl rfl rfl (q_pickGT (a := (!neg_1)) (b := (decide (n_2 < (9223372036854775808 : Int)))) rfl rfl rfl rfl) ?_
    refine rv 15 rfl rfl rfl (q_assign (v := .bool (((!neg_1) && (decide (n_2 < (9223372036854775808 : Int)))))) rfl rfl) ?_
    refine ro_nil ?_
    refine wp_if (b := ((!neg_1) && (decide (n_2 < (9223372036854775808 : Int))))) rfl h (fun hb3 h => ?_) (fun hb3 h => ?_)
    · refine wp_seq ?_
      refine wp_text [0, 1, 2, 3] rfl ?_
      refine rv 22 rfl rfl rfl (q_move (v := .int .u64 (n_2)) rfl rfl) ?_
      refine rv 23 rfl rfl rfl (q_cvtI (a := n_2) rfl Tryz.underlying122 Tryz.underlying2 rfl) ?_
      refine rv 4 rfl rfl rfl (q_assign (v := .int .i64 ((IntKind.i64.wrap n_2))) rfl rfl) ?_
      refine rv 5 rfl rfl rfl (q_assign (v := .int .i64 ((0 : Int))) rfl rfl) ?_
      refine ro_nil ?_
      refine wp_ret ?_
      exact ret_ok rfl (.cons (.tmp (v := .int .i64 ((IntKind.i64.wrap n_2))) rfl) (.cons (.tmp (v := .int .i64 ((0 : Int))) rfl) .nil)) ⟨((IntKind.i64.wrap n_2), (0 : Int)), rfl, h⟩
    · refine wp_skip ?_
      refine wp_seq ?_
      refine wp_text [0, 1] rfl ?_
      refine rv 4 rfl rfl rfl (q_assign (v := .int .i64 ((0 : Int))) rfl rfl) ?_
      refine rv 5 rfl rfl rfl (q_assign (v := .int .i64 ((11 : Int))) rfl rfl) ?_
      refine ro_nil ?_
      refine wp_ret ?_
      exact ret_ok rfl (.cons (.tmp (v := .int .i64 ((0 : Int))) rfl) (.cons (.tmp (v := .int .i64 ((11 : Int))) rfl) .nil)) ⟨((0 : Int), (11 : Int)), rfl, h⟩

-- moiety/num.down
def F94 (hi_1 : Int) (lo_2 : Int) (by_3 : Int) (w : World) (R : (Int × Bool × Bool) → World → Prop) : Prop :=
  if (decide (by_3 ≥ (128 : Int))) = true then (
    R ((0 : Int), true, true) w
  ) else (
    if (decide (by_3 > (64 : Int))) = true then (
      ex (Shift (IntKind.u64.wrap (by_3 - (64 : Int))) (Int.fdiv hi_1 (2 ^ (min ((IntKind.u64.wrap (by_3 - (64 : Int)))).toNat IntKind.u64.bits)))) fun d4 =>
      ex (Shift (IntKind.u64.wrap ((128 : Int) - by_3)) (IntKind.u64.wrap (hi_1 * 2 ^ (min ((IntKind.u64.wrap ((128 : Int) - by_3))).toNat IntKind.u64.bits)))) fun d5 =>
      R (d4, ((d5 != (0 : Int)) || (lo_2 != (0 : Int))), true) w
    ) else (
      if (by_3 == (64 : Int)) = true then (
        R (hi_1, (lo_2 != (0 : Int)), true) w
      ) else (
        ex (Shift by_3 (Int.fdiv lo_2 (2 ^ (min (by_3).toNat IntKind.u64.bits)))) fun d6 =>
        ex (Shift (IntKind.u64.wrap ((64 : Int) - by_3)) (IntKind.u64.wrap (hi_1 * 2 ^ (min ((IntKind.u64.wrap ((64 : Int) - by_3))).toNat IntKind.u64.bits)))) fun d7 =>
        ex (Shift (IntKind.u64.wrap ((64 : Int) - by_3)) (IntKind.u64.wrap (lo_2 * 2 ^ (min ((IntKind.u64.wrap ((64 : Int) - by_3))).toNat IntKind.u64.bits)))) fun d8 =>
        ex (Shift by_3 (Int.fdiv hi_1 (2 ^ (min (by_3).toNat IntKind.u64.bits)))) fun d9 =>
        R ((bits .or .u64 d6 d7), (d8 != (0 : Int)), (d9 == (0 : Int))) w
      )
    )
  )
theorem F94_ok {hi_1 : Int} {lo_2 : Int} {by_3 : Int} {w : World} {R : (Int × Bool × Bool) → World → Prop} (h : F94 hi_1 lo_2 by_3 w R) : cl Tryz.prog 94 [.int .u64 (hi_1), .int .u64 (lo_2), .int .u64 (by_3)] (tTup3 (tInt .u64) tBool tBool) w R := by
  unfold F94 at h
  refine calls_start 51 Tryz.func94 rfl rfl (Nat.le_of_ble_eq_true rfl) ?_
  refine wp_seq ?_
  refine wp_text [0, 1, 2] rfl ?_
  refine rv 6 rfl rfl rfl (q_assign (v := .int .u64 ((0 : Int))) rfl rfl) ?_
  refine rv 7 rfl rfl rfl (q_assign (v := .bool (false)) rfl rfl) ?_
  refine rv 8 rfl rfl rfl (q_assign (v := .bool (false)) rfl rfl) ?_
  refine ro_nil ?_
  refine wp_seq ?_
  refine wp_block ?_
  refine wp_seq ?_
  refine wp_text [0, 1, 2] rfl ?_
  refine rv 10 rfl rfl rfl (q_move (v := .int .u64 (by_3)) rfl rfl) ?_
  refine rv 11 rfl rfl rfl (q_geq (a := by_3) (b := (128 : Int)) rfl rfl rfl) ?_
  refine rv 9 rfl rfl rfl (q_assign (v := .bool ((decide (by_3 ≥ (128 : Int))))) rfl rfl) ?_
  refine ro_nil ?_
  refine wp_if (b := (decide (by_3 ≥ (128 : Int)))) rfl h (fun hb12 h => ?_) (fun hb12 h => ?_)
  · refine wp_seq ?_
    refine wp_text [0, 1, 2] rfl ?_
    refine rv 6 rfl rfl rfl (q_assign (v := .int .u64 ((0 : Int))) rfl rfl) ?_
    refine rv 7 rfl rfl rfl (q_assign (v := .bool (true)) rfl rfl) ?_
    refine rv 8 rfl rfl rfl (q_assign (v := .bool (true)) rfl rfl) ?_
    refine ro_nil ?_
    refine wp_ret ?_
    exact ret_ok rfl (.cons (.tmp (v := .int .u64 ((0 : Int))) rfl) (.cons (.tmp (v := .bool (true)) rfl) (.cons (.tmp (v := .bool (true)) rfl) .nil))) ⟨((0 : Int), true, true), rfl, h⟩
  · refine wp_seq ?_
    refine wp_text [0, 1, 2] rfl ?_
    refine rv 13 rfl rfl rfl (q_move (v := .int .u64 (by_3)) rfl rfl) ?_
    refine rv 14 rfl rfl rfl (q_gtr (a := by_3) (b := (64 : Int)) rfl rfl rfl) ?_
    refine rv 12 rfl rfl rfl (q_assign (v := .bool ((decide (by_3 > (64 : Int))))) rfl rfl) ?_
    refine ro_nil ?_
    refine wp_if (b := (decide (by_3 > (64 : Int)))) rfl h (fun hb11 h => ?_) (fun hb11 h => ?_)
    · refine wp_seq ?_
      refine wp_text [0, 1, 2, 3, 4, 5, 6, 7, 8, 9, 10, 11, 12, 13, 14, 15] rfl ?_
      refine rv 15 rfl rfl rfl (q_move (v := .int .u64 (hi_1)) rfl rfl) ?_
      refine rv 16 rfl rfl rfl (q_move (v := .int .u64 (by_3)) rfl rfl) ?_
      refine rv 17 rfl rfl rfl (q_sub (a := by_3) (b := (64 : Int)) rfl rfl rfl) ?_
      obtain ⟨d4, hd4, h⟩ := h
      refine rv 18 rfl rfl rfl (q_shr (a := hi_1) (b := (IntKind.u64.wrap (by_3 - (64 : Int)))) (r := d4) rfl rfl rfl hd4) ?_
      refine rv 19 rfl rfl rfl (q_move (v := .int .u64 (hi_1)) rfl rfl) ?_
      refine rv 20 rfl rfl rfl (q_move (v := .int .u64 (by_3)) rfl rfl) ?_
      refine rv 21 rfl rfl rfl (q_sub (a := (128 : Int)) (b := by_3) rfl rfl rfl) ?_
      obtain ⟨d5, hd5, h⟩ := h
      refine rv 22 rfl rfl rfl (q_shl (a := hi_1) (b := (IntKind.u64.wrap ((128 : Int) - by_3))) (r := d5) rfl rfl rfl hd5) ?_
      refine rv 23 rfl rfl rfl (q_neq (a := d5) (b := (0 : Int)) rfl rfl rfl) ?_
      refine rv 24 rfl rfl rfl (q_move (v := .bool ((d5 != (0 : Int)))) rfl rfl) ?_
      refine ro_gval (g := (!(d5 != (0 : Int)))) (d := (some 25)) rfl (.no 9 24 true (d5 != (0 : Int)) rfl rfl rfl rfl) rfl (fun hg => q_move (v := .int .u64 (lo_2)) rfl rfl) ?_
      refine ro_gval (g := (!(d5 != (0 : Int)))) (d := (some 26)) rfl (.no 9 24 true (d5 != (0 : Int)) rfl rfl rfl rfl) rfl (fun hg => q_neq (k := .u64) (a := lo_2) (b := (0 : Int)) rfl (gvb_yes hg) rfl) ?_
      refine rv 27 rfl rfl rfl (q_pickGF (a := (d5 != (0 : Int))) (c := (lo_2 != (0 : Int))) rfl rfl rfl rfl) ?_
      refine rv 6 rfl rfl rfl (q_assign (v := .int .u64 (d4)) rfl rfl) ?_
      refine rv 7 rfl rfl rfl (q_assign (v := .bool (((d5 != (0 : Int)) || (lo_2 != (0 : Int))))) rfl rfl) ?_
      refine rv 8 rfl rfl rfl (q_assign (v := .bool (true)) rfl rfl) ?_
      refine ro_nil ?_
      refine wp_ret ?_
      exact ret_ok rfl (.cons (.tmp (v := .int .u64 (d4)) rfl) (.cons (.tmp (v := .bool (((d5 != (0 : Int)) || (lo_2 != (0 : Int))))) rfl) (.cons (.tmp (v := .bool (true)) rfl) .nil))) ⟨(d4, ((d5 != (0 : Int)) || (lo_2 != (0 : Int))), true), rfl, h⟩
    · refine wp_seq ?_
      refine wp_text [0, 1, 2] rfl ?_
      refine rv 29 rfl rfl rfl (q_move (v := .int .u64 (by_3)) rfl rfl) ?_
      refine rv 30 rfl rfl rfl (q_eql (a := by_3) (b := (64 : Int)) rfl rfl rfl) ?_
      refine rv 28 rfl rfl rfl (q_assign (v := .bool ((by_3 == (64 : Int)))) rfl rfl) ?_
      refine ro_nil ?_
      refine wp_if (b := (by_3 == (64 : Int))) rfl h (fun hb10 h => ?_) (fun hb10 h => ?_)
      · refine wp_seq ?_
        refine wp_text [0, 1, 2, 3, 4, 5] rfl ?_
        refine rv 31 rfl rfl rfl (q_move (v := .int .u64 (hi_1)) rfl rfl) ?_
        refine rv 32 rfl rfl rfl (q_move (v := .int .u64 (lo_2)) rfl rfl) ?_
        refine rv 33 rfl rfl rfl (q_neq (a := lo_2) (b := (0 : Int)) rfl rfl rfl) ?_
        refine rv 6 rfl rfl rfl (q_assign (v := .int .u64 (hi_1)) rfl rfl) ?_
        refine rv 7 rfl rfl rfl (q_assign (v := .bool ((lo_2 != (0 : Int)))) rfl rfl) ?_
        refine rv 8 rfl rfl rfl (q_assign (v := .bool (true)) rfl rfl) ?_
        refine ro_nil ?_
        refine wp_ret ?_
        exact ret_ok rfl (.cons (.tmp (v := .int .u64 (hi_1)) rfl) (.cons (.tmp (v := .bool ((lo_2 != (0 : Int)))) rfl) (.cons (.tmp (v := .bool (true)) rfl) .nil))) ⟨(hi_1, (lo_2 != (0 : Int)), true), rfl, h⟩
      · refine wp_skip ?_
        refine wp_seq ?_
        refine wp_text [0, 1, 2, 3, 4, 5, 6, 7, 8, 9, 10, 11, 12, 13, 14, 15, 16, 17, 18, 19] rfl ?_
        refine rv 34 rfl rfl rfl (q_move (v := .int .u64 (lo_2)) rfl rfl) ?_
        refine rv 35 rfl rfl rfl (q_move (v := .int .u64 (by_3)) rfl rfl) ?_
        obtain ⟨d6, hd6, h⟩ := h
        refine rv 36 rfl rfl rfl (q_shr (a := lo_2) (b := by_3) (r := d6) rfl rfl rfl hd6) ?_
        refine rv 37 rfl rfl rfl (q_move (v := .int .u64 (hi_1)) rfl rfl) ?_
        refine rv 38 rfl rfl rfl (q_move (v := .int .u64 (by_3)) rfl rfl) ?_
        refine rv 39 rfl rfl rfl (q_sub (a := (64 : Int)) (b := by_3) rfl rfl rfl) ?_
        obtain ⟨d7, hd7, h⟩ := h
        refine rv 40 rfl rfl rfl (q_shl (a := hi_1) (b := (IntKind.u64.wrap ((64 : Int) - by_3))) (r := d7) rfl rfl rfl hd7) ?_
        refine rv 41 rfl rfl rfl (q_or (a := d6) (b := d7) rfl rfl rfl) ?_
        refine rv 42 rfl rfl rfl (q_move (v := .int .u64 (lo_2)) rfl rfl) ?_
        refine rv 43 rfl rfl rfl (q_move (v := .int .u64 (by_3)) rfl rfl) ?_
        refine rv 44 rfl rfl rfl (q_sub (a := (64 : Int)) (b := by_3) rfl rfl rfl) ?_
        obtain ⟨d8, hd8, h⟩ := h
        refine rv 45 rfl rfl rfl (q_shl (a := lo_2) (b := (IntKind.u64.wrap ((64 : Int) - by_3))) (r := d8) rfl rfl rfl hd8) ?_
        refine rv 46 rfl rfl rfl (q_neq (a := d8) (b := (0 : Int)) rfl rfl rfl) ?_
        refine rv 47 rfl rfl rfl (q_move (v := .int .u64 (hi_1)) rfl rfl) ?_
        refine rv 48 rfl rfl rfl (q_move (v := .int .u64 (by_3)) rfl rfl) ?_
        obtain ⟨d9, hd9, h⟩ := h
        refine rv 49 rfl rfl rfl (q_shr (a := hi_1) (b := by_3) (r := d9) rfl rfl rfl hd9) ?_
        refine rv 50 rfl rfl rfl (q_eql (a := d9) (b := (0 : Int)) rfl rfl rfl) ?_
        refine rv 6 rfl rfl rfl (q_assign (v := .int .u64 ((bits .or .u64 d6 d7))) rfl rfl) ?_
        refine rv 7 rfl rfl rfl (q_assign (v := .bool ((d8 != (0 : Int)))) rfl rfl) ?_
        refine rv 8 rfl rfl rfl (q_assign (v := .bool ((d9 == (0 : Int)))) rfl rfl) ?_
        refine ro_nil ?_
        refine wp_ret ?_
        exact ret_ok rfl (.cons (.tmp (v := .int .u64 ((bits .or .u64 d6 d7))) rfl) (.cons (.tmp (v := .bool ((d8 != (0 : Int)))) rfl) (.cons (.tmp (v := .bool ((d9 == (0 : Int)))) rfl) .nil))) ⟨((bits .or .u64 d6 d7), (d8 != (0 : Int)), (d9 == (0 : Int))), rfl, h⟩

-- math.Abs
def F95 (x_1 : Nat) (w : World) (R : Nat → World → Prop) : Prop :=
  R (Int.toNat (bits .andNot .u64 (x_1 : Int) (9223372036854775808 : Int))) w
theorem F95_ok {x_1 : Nat} {w : World} {R : Nat → World → Prop} (h : F95 x_1 w R) : cl Tryz.prog 95 [.float .f64 (x_1)] tFlt w R := by
  unfold F95 at h
  refine calls_start 7 Tryz.func95 rfl rfl (Nat.le_of_ble_eq_true rfl) ?_
  refine wp_seq ?_
  refine wp_text [0] rfl ?_
  refine rv 2 rfl rfl rfl (q_assign (v := .float .f64 ((0 : Nat))) rfl rfl) ?_
  refine ro_nil ?_
  refine wp_seq ?_
  refine wp_text [0, 1, 2, 3, 4] rfl ?_
  refine rv 3 rfl rfl rfl (q_move (v := .float .f64 (x_1)) rfl rfl) ?_
  refine rv 4 rfl rfl rfl (q_f64bits (b := x_1) rfl ext72 rfl) ?_
  refine rv 5 rfl rfl rfl (q_andNot (a := (x_1 : Int)) (b := (9223372036854775808 : Int)) rfl rfl rfl) ?_
  refine rv 6 rfl rfl rfl (q_f64from (b := (bits .andNot .u64 (x_1 : Int) (9223372036854775808 : Int))) rfl ext106 rfl) ?_
  refine rv 2 rfl rfl rfl (q_assign (v := .float .f64 ((Int.toNat (bits .andNot .u64 (x_1 : Int) (9223372036854775808 : Int))))) rfl rfl) ?_
  refine ro_nil ?_
  refine wp_ret ?_
  exact ret_ok rfl (.cons (.tmp (v := .float .f64 ((Int.toNat (bits .andNot .u64 (x_1 : Int) (9223372036854775808 : Int))))) rfl) .nil) ⟨(Int.toNat (bits .andNot .u64 (x_1 : Int) (9223372036854775808 : Int))), rfl, h⟩

-- math.frexp
def F103_j1 (f_1 : Nat) (t_4 : Bool) (w5 : World) (R : (Nat × Int) → World → Prop) : Prop :=
  if t_4 = true then (
    R (f_1, (0 : Int)) w5
  ) else (
    cl Tryz.prog 109 [.float .f64 (f_1)] (tTup2 tFlt (tInt .i64)) w5 fun r7 w6 =>
    ex (Shift (52 : Int) (Int.fdiv (r7.1 : Int) (2 ^ (min ((52 : Int)).toNat IntKind.u64.bits)))) fun d8 =>
    R ((Int.toNat (bits .or .u64 (bits .andNot .u64 (r7.1 : Int) (9218868437227405312 : Int)) (4602678819172646912 : Int))), (IntKind.i64.wrap (r7.2 + (IntKind.i64.wrap ((IntKind.i64.wrap ((IntKind.i64.wrap (bits .and .u64 d8 (2047 : Int))) - (1023 : Int))) + (1 : Int)))))) w6
  )
def F103 (f_1 : Nat) (w : World) (R : (Nat × Int) → World → Prop) : Prop :=
  if (fcmp .eql f_1 (0 : Nat)) = true then (
    R (f_1, (0 : Int)) w
  ) else (
    cl Tryz.prog 73 [.float .f64 (f_1), .int .i64 ((0 : Int))] tBool w fun r3 w2 =>
    if r3 = true then (
      F103_j1 f_1 true w2 R
    ) else (
      cl Tryz.prog 108 [.float .f64 (f_1)] tBool w2 fun r12 w11 =>
      F103_j1 f_1 r12 w11 R
    )
  )
theorem F103_ok {f_1 : Nat} {w : World} {R : (Nat × Int) → World → Prop} (h : F103 f_1 w R) : cl Tryz.prog 103 [.float .f64 (f_1)] (tTup2 tFlt (tInt .i64)) w R := by
  unfold F103 at h
  refine calls_start 38 Tryz.func103 rfl rfl (Nat.le_of_ble_eq_true rfl) ?_
  refine wp_seq ?_
  refine wp_text [0, 1] rfl ?_
  refine rv 2 rfl rfl rfl (q_assign (v := .float .f64 ((0 : Nat))) rfl rfl) ?_
  refine rv 3 rfl rfl rfl (q_assign (v := .int .i64 ((0 : Int))) rfl rfl) ?_
  refine ro_nil ?_
  refine wp_seq ?_
  refine wp_block ?_
  refine wp_seq ?_
  refine wp_text [0, 1, 2] rfl ?_
  refine rv 6 rfl rfl rfl (q_move (v := .float .f64 (f_1)) rfl rfl) ?_
  refine rv 7 rfl rfl rfl (q_fcmp (op := .eql) (a := f_1) (b := (0 : Nat)) rfl (by decide) rfl rfl) ?_
  refine rv 5 rfl rfl rfl (q_assign (v := .bool ((fcmp .eql f_1 (0 : Nat)))) rfl rfl) ?_
  refine ro_nil ?_
  refine wp_if (b := (fcmp .eql f_1 (0 : Nat))) rfl h (fun hb13 h => ?_) (fun hb13 h => ?_)
  · refine wp_seq ?_
    refine wp_text [0, 1, 2] rfl ?_
    refine rv 8 rfl rfl rfl (q_move (v := .float .f64 (f_1)) rfl rfl) ?_
    refine rv 2 rfl rfl rfl (q_assign (v := .float .f64 (f_1)) rfl rfl) ?_
    refine rv 3 rfl rfl rfl (q_assign (v := .int .i64 ((0 : Int))) rfl rfl) ?_
    refine ro_nil ?_
    refine wp_ret ?_
    exact ret_ok rfl (.cons (.tmp (v := .float .f64 (f_1)) rfl) (.cons (.tmp (v := .int .i64 ((0 : Int))) rfl) .nil)) ⟨(f_1, (0 : Int)), rfl, h⟩
  · refine wp_seq ?_
    refine wp_text [0, 1, 2, 3, 4, 5, 6] rfl ?_
    refine rv 10 rfl rfl rfl (q_move (v := .float .f64 (f_1)) rfl rfl) ?_
    refine ro_wp rfl (.free rfl) (wp_cl (d := (some 11)) rfl (q_call (k := 73) (l := [.float .f64 (f_1), .int .i64 ((0 : Int))]) rfl ent73 rfl) h ?_)
    intro r3 w2 h
    refine rv 12 rfl rfl rfl (q_move (v := .bool (r3)) rfl rfl) ?_
    refine ro_join (σ := Bool) (J := fun (s : Bool) w => F103_j1 f_1 s w R) (fr := fun g (s : Bool) => upd (upd (g) 0 (.float .f64 (f_1))) 15 (.bool (s))) [3, 4, 5] [6] ?_ ?_
    · rintro t_4 g w5 h
      unfold F103_j1 at h
      refine rv 9 rfl rfl rfl (q_assign (v := .bool (t_4)) rfl rfl) ?_
      refine ro_nil ?_
      refine wp_if (b := t_4) rfl h (fun hb9 h => ?_) (fun hb9 h => ?_)
      · refine wp_seq ?_
        refine wp_text [0, 1, 2] rfl ?_
        refine rv 16 rfl rfl rfl (q_move (v := .float .f64 (f_1)) rfl rfl) ?_
        refine rv 2 rfl rfl rfl (q_assign (v := .float .f64 (f_1)) rfl rfl) ?_
        refine rv 3 rfl rfl rfl (q_assign (v := .int .i64 ((0 : Int))) rfl rfl) ?_
        refine ro_nil ?_
        refine wp_ret ?_
        exact ret_ok rfl (.cons (.tmp (v := .float .f64 (f_1)) rfl) (.cons (.tmp (v := .int .i64 ((0 : Int))) rfl) .nil)) ⟨(f_1, (0 : Int)), rfl, h⟩
      · refine wp_skip ?_
        refine wp_seq ?_
        refine wp_text [0, 1, 2, 3, 4, 5, 6] rfl ?_
        refine rv 18 rfl rfl rfl (q_move (v := .float .f64 (f_1)) rfl rfl) ?_
        refine ro_wp rfl (.free rfl) (wp_cl (d := (some 19)) rfl (q_call (k := 109) (l := [.float .f64 (f_1)]) rfl ent109 rfl) h ?_)
        intro r7 w6 h
        refine rv 17 rfl rfl rfl (q_move (v := (tTup2 tFlt (tInt .i64)).enc (r7)) rfl rfl) ?_
        refine rv 20 rfl rfl rfl (q_extract (vs := #[.float .f64 (r7.1), .int .i64 (r7.2)]) (v := .float .f64 (r7.1)) rfl rfl rfl) ?_
        refine rv 21 rfl rfl rfl (q_extract (vs := #[.float .f64 (r7.1), .int .i64 (r7.2)]) (v := .int .i64 (r7.2)) rfl rfl rfl) ?_
        refine rv 0 rfl rfl rfl (q_assign (v := .float .f64 (r7.1)) rfl rfl) ?_
        refine rv 3 rfl rfl rfl (q_assign (v := .int .i64 (r7.2)) rfl rfl) ?_
        refine ro_nil ?_
        refine wp_seq ?_
        refine wp_text [0, 1, 2] rfl ?_
        refine rv 22 rfl rfl rfl (q_move (v := .float .f64 (r7.1)) rfl rfl) ?_
        refine rv 23 rfl rfl rfl (q_f64bits (b := r7.1) rfl ext72 rfl) ?_
        refine rv 4 rfl rfl rfl (q_assign (v := .int .u64 ((r7.1 : Int))) rfl rfl) ?_
        refine ro_nil ?_
        refine wp_seq ?_
        refine wp_text [0, 1, 2, 3, 4, 5, 6, 7, 8] rfl ?_
        refine rv 24 rfl rfl rfl (q_move (v := .int .i64 (r7.2)) rfl rfl) ?_
        refine rv 25 rfl rfl rfl (q_move (v := .int .u64 ((r7.1 : Int))) rfl rfl) ?_
        obtain ⟨d8, hd8, h⟩ := h
        refine rv 26 rfl rfl rfl (q_shr (a := (r7.1 : Int)) (b := (52 : Int)) (r := d8) rfl rfl rfl hd8) ?_
        refine rv 27 rfl rfl rfl (q_and (a := d8) (b := (2047 : Int)) rfl rfl rfl) ?_
        refine rv 28 rfl rfl rfl (q_cvtI (a := (bits .and .u64 d8 (2047 : Int))) rfl Tryz.underlying122 Tryz.underlying3 rfl) ?_
        refine rv 29 rfl rfl rfl (q_sub (a := (IntKind.i64.wrap (bits .and .u64 d8 (2047 : Int)))) (b := (1023 : Int)) rfl rfl rfl) ?_
        refine rv 30 rfl rfl rfl (q_add (a := (IntKind.i64.wrap ((IntKind.i64.wrap (bits .and .u64 d8 (2047 : Int))) - (1023 : Int)))) (b := (1 : Int)) rfl rfl rfl) ?_
        refine rv 31 rfl rfl rfl (q_add (a := r7.2) (b := (IntKind.i64.wrap ((IntKind.i64.wrap ((IntKind.i64.wrap (bits .and .u64 d8 (2047 : Int))) - (1023 : Int))) + (1 : Int)))) rfl rfl rfl) ?_
        refine rv 3 rfl rfl rfl (q_assign (v := .int .i64 ((IntKind.i64.wrap (r7.2 + (IntKind.i64.wrap ((IntKind.i64.wrap ((IntKind.i64.wrap (bits .and .u64 d8 (2047 : Int))) - (1023 : Int))) + (1 : Int))))))) rfl rfl) ?_
        refine ro_nil ?_
        refine wp_seq ?_
        refine wp_text [0, 1, 2] rfl ?_
        refine rv 32 rfl rfl rfl (q_move (v := .int .u64 ((r7.1 : Int))) rfl rfl) ?_
        refine rv 33 rfl rfl rfl (q_andNot (a := (r7.1 : Int)) (b := (9218868437227405312 : Int)) rfl rfl rfl) ?_
        refine rv 4 rfl rfl rfl (q_assign (v := .int .u64 ((bits .andNot .u64 (r7.1 : Int) (9218868437227405312 : Int)))) rfl rfl) ?_
        refine ro_nil ?_
        refine wp_seq ?_
        refine wp_text [0, 1, 2] rfl ?_
        refine rv 34 rfl rfl rfl (q_move (v := .int .u64 ((bits .andNot .u64 (r7.1 : Int) (9218868437227405312 : Int)))) rfl rfl) ?_
        refine rv 35 rfl rfl rfl (q_or (a := (bits .andNot .u64 (r7.1 : Int) (9218868437227405312 : Int))) (b := (4602678819172646912 : Int)) rfl rfl rfl) ?_
        refine rv 4 rfl rfl rfl (q_assign (v := .int .u64 ((bits .or .u64 (bits .andNot .u64 (r7.1 : Int) (9218868437227405312 : Int)) (4602678819172646912 : Int)))) rfl rfl) ?_
        refine ro_nil ?_
        refine wp_seq ?_
        refine wp_text [0, 1, 2] rfl ?_
        refine rv 36 rfl rfl rfl (q_move (v := .int .u64 ((bits .or .u64 (bits .andNot .u64 (r7.1 : Int) (9218868437227405312 : Int)) (4602678819172646912 : Int)))) rfl rfl) ?_
        refine rv 37 rfl rfl rfl (q_f64from (b := (bits .or .u64 (bits .andNot .u64 (r7.1 : Int) (9218868437227405312 : Int)) (4602678819172646912 : Int))) rfl ext106 rfl) ?_
        refine rv 2 rfl rfl rfl (q_assign (v := .float .f64 ((Int.toNat (bits .or .u64 (bits .andNot .u64 (r7.1 : Int) (9218868437227405312 : Int)) (4602678819172646912 : Int))))) rfl rfl) ?_
        refine ro_nil ?_
        refine wp_ret ?_
        exact ret_ok rfl (.cons (.tmp (v := .float .f64 ((Int.toNat (bits .or .u64 (bits .andNot .u64 (r7.1 : Int) (9218868437227405312 : Int)) (4602678819172646912 : Int))))) rfl) (.cons (.tmp (v := .int .i64 ((IntKind.i64.wrap (r7.2 + (IntKind.i64.wrap ((IntKind.i64.wrap ((IntKind.i64.wrap (bits .and .u64 d8 (2047 : Int))) - (1023 : Int))) + (1 : Int))))))) rfl) .nil)) ⟨((Int.toNat (bits .or .u64 (bits .andNot .u64 (r7.1 : Int) (9218868437227405312 : Int)) (4602678819172646912 : Int))), (IntKind.i64.wrap (r7.2 + (IntKind.i64.wrap ((IntKind.i64.wrap ((IntKind.i64.wrap (bits .and .u64 d8 (2047 : Int))) - (1023 : Int))) + (1 : Int)))))), rfl, h⟩
    · refine ro_if (b := r3) h (fun hb10 h => ?_) (fun hb10 h => ?_)
      · refine ro_bar (d := (some 13)) rfl (.by_ 2 false 12 r3 rfl rfl rfl hb10) rfl ?_
        refine ro_bar (d := (some 14)) rfl (.by_ 2 false 12 r3 rfl rfl rfl hb10) rfl ?_
        refine rv 15 rfl rfl rfl (q_pickT (v := .bool (true)) (b := r3) rfl rfl hb10 rfl) ?_
        refine ro_nil ?_
        exact ⟨(true), _, arr (upd_step (upd_step rfl rfl) rfl), h⟩
      · refine ro_val (d := (some 13)) rfl (.by_ 2 false 12 r3 rfl rfl rfl hb10) rfl (q_move (v := .float .f64 (f_1)) rfl rfl) ?_
        refine ro_wp rfl (.by_ 2 false 12 r3 rfl rfl rfl hb10) (wp_cl (d := (some 14)) rfl (q_call (k := 108) (l := [.float .f64 (f_1)]) rfl ent108 rfl) h ?_)
        intro r12 w11 h
        refine rv 15 rfl rfl rfl (q_pickF (v := .bool (r12)) (b := r3) rfl rfl hb10 rfl) ?_
        refine ro_nil ?_
        exact ⟨(r12), _, arr (upd_step (upd_step rfl rfl) rfl), h⟩

-- math.ldexp
def F105_j2 (r8 : (Nat × Int)) (exp_17 : Int) (m_18 : Nat) (w19 : World) (R : Nat → World → Prop) : Prop :=
  ex (Shift (52 : Int) (IntKind.u64.wrap ((IntKind.u64.wrap (IntKind.i64.wrap (exp_17 + (1023 : Int)))) * 2 ^ (min ((52 : Int)).toNat IntKind.u64.bits)))) fun d20 =>
  ex (FArith .mul m_18 (Int.toNat (bits .or .u64 (bits .andNot .u64 (r8.1 : Int) (9218868437227405312 : Int)) d20))) fun z21 =>
  R z21 w19
def F105_j1 (frac_1 : Nat) (exp_2 : Int) (t_5 : Bool) (w6 : World) (R : Nat → World → Prop) : Prop :=
  if t_5 = true then (
    R frac_1 w6
  ) else (
    cl Tryz.prog 109 [.float .f64 (frac_1)] (tTup2 tFlt (tInt .i64)) w6 fun r8 w7 =>
    ex (Shift (52 : Int) (Int.fdiv (r8.1 : Int) (2 ^ (min ((52 : Int)).toNat IntKind.u64.bits)))) fun d9 =>
    if (decide ((IntKind.i64.wrap ((IntKind.i64.wrap (exp_2 + r8.2)) + (IntKind.i64.wrap ((bits .and .i64 (IntKind.i64.wrap d9) (2047 : Int)) - (1023 : Int))))) < (-1075 : Int))) = true then (
      cl Tryz.prog 110 [.float .f64 ((0 : Nat)), .float .f64 (r8.1)] tFlt w7 fun r11 w10 =>
      R r11 w10
    ) else (
      if (decide ((IntKind.i64.wrap ((IntKind.i64.wrap (exp_2 + r8.2)) + (IntKind.i64.wrap ((bits .and .i64 (IntKind.i64.wrap d9) (2047 : Int)) - (1023 : Int))))) > (1023 : Int))) = true then (
        if (fcmp .lss r8.1 (0 : Nat)) = true then (
          cl Tryz.prog 111 [.int .i64 ((-1 : Int))] tFlt w7 fun r13 w12 =>
          R r13 w12
        ) else (
          cl Tryz.prog 111 [.int .i64 ((1 : Int))] tFlt w7 fun r15 w14 =>
          R r15 w14
        )
      ) else (
        if (decide ((IntKind.i64.wrap ((IntKind.i64.wrap (exp_2 + r8.2)) + (IntKind.i64.wrap ((bits .and .i64 (IntKind.i64.wrap d9) (2047 : Int)) - (1023 : Int))))) < (-1022 : Int))) = true then (
          F105_j2 r8 (IntKind.i64.wrap ((IntKind.i64.wrap ((IntKind.i64.wrap (exp_2 + r8.2)) + (IntKind.i64.wrap ((bits .and .i64 (IntKind.i64.wrap d9) (2047 : Int)) - (1023 : Int))))) + (53 : Int))) (4368491638549381120 : Nat) w7 R
        ) else (
          F105_j2 r8 (IntKind.i64.wrap ((IntKind.i64.wrap (exp_2 + r8.2)) + (IntKind.i64.wrap ((bits .and .i64 (IntKind.i64.wrap d9) (2047 : Int)) - (1023 : Int))))) (4607182418800017408 : Nat) w7 R
        )
      )
    )
  )
def F105 (frac_1 : Nat) (exp_2 : Int) (w : World) (R : Nat → World → Prop) : Prop :=
  if (fcmp .eql frac_1 (0 : Nat)) = true then (
    R frac_1 w
  ) else (
    cl Tryz.prog 73 [.float .f64 (frac_1), .int .i64 ((0 : Int))] tBool w fun r4 w3 =>
    if r4 = true then (
      F105_j1 frac_1 exp_2 true w3 R
    ) else (
      cl Tryz.prog 108 [.float .f64 (frac_1)] tBool w3 fun r28 w27 =>
      F105_j1 frac_1 exp_2 r28 w27 R
    )
  )
theorem F105_ok {frac_1 : Nat} {exp_2 : Int} {w : World} {R : Nat → World → Prop} (h : F105 frac_1 exp_2 w R) : cl Tryz.prog 105 [.float .f64 (frac_1), .int .i64 (exp_2)] tFlt w R := by
  unfold F105 at h
  refine calls_start 63 Tryz.func105 rfl rfl (Nat.le_of_ble_eq_true rfl) ?_
  refine wp_seq ?_
  refine wp_text [0] rfl ?_
  refine rv 4 rfl rfl rfl (q_assign (v := .float .f64 ((0 : Nat))) rfl rfl) ?_
  refine ro_nil ?_
  refine wp_seq ?_
  refine wp_block ?_
  refine wp_seq ?_
  refine wp_text [0, 1, 2] rfl ?_
  refine rv 9 rfl rfl rfl (q_move (v := .float .f64 (frac_1)) rfl rfl) ?_
  refine rv 10 rfl rfl rfl (q_fcmp (op := .eql) (a := frac_1) (b := (0 : Nat)) rfl (by decide) rfl rfl) ?_
  refine rv 8 rfl rfl rfl (q_assign (v := .bool ((fcmp .eql frac_1 (0 : Nat)))) rfl rfl) ?_
  refine ro_nil ?_
  refine wp_if (b := (fcmp .eql frac_1 (0 : Nat))) rfl h (fun hb29 h => ?_) (fun hb29 h => ?_)
  · refine wp_seq ?_
    refine wp_text [0, 1] rfl ?_
    refine rv 11 rfl rfl rfl (q_move (v := .float .f64 (frac_1)) rfl rfl) ?_
    refine rv 4 rfl rfl rfl (q_assign (v := .float .f64 (frac_1)) rfl rfl) ?_
    refine ro_nil ?_
    refine wp_ret ?_
    exact ret_ok rfl (.cons (.tmp (v := .float .f64 (frac_1)) rfl) .nil) ⟨frac_1, rfl, h⟩
  · refine wp_seq ?_
    refine wp_text [0, 1, 2, 3, 4, 5, 6] rfl ?_
    refine rv 13 rfl rfl rfl (q_move (v := .float .f64 (frac_1)) rfl rfl) ?_
    refine ro_wp rfl (.free rfl) (wp_cl (d := (some 14)) rfl (q_call (k := 73) (l := [.float .f64 (frac_1), .int .i64 ((0 : Int))]) rfl ent73 rfl) h ?_)
    intro r4 w3 h
    refine rv 15 rfl rfl rfl (q_move (v := .bool (r4)) rfl rfl) ?_
    refine ro_join (σ := Bool) (J := fun (s : Bool) w => F105_j1 frac_1 exp_2 s w R) (fr := fun g (s : Bool) => upd (upd (upd (g) 0 (.float .f64 (frac_1))) 1 (.int .i64 (exp_2))) 18 (.bool (s))) [3, 4, 5] [6] ?_ ?_
    · rintro t_5 g w6 h
      unfold F105_j1 at h
      refine rv 12 rfl rfl rfl (q_assign (v := .bool (t_5)) rfl rfl) ?_
      refine ro_nil ?_
      refine wp_if (b := t_5) rfl h (fun hb25 h => ?_) (fun hb25 h => ?_)
      · refine wp_seq ?_
        refine wp_text [0, 1] rfl ?_
        refine rv 19 rfl rfl rfl (q_move (v := .float .f64 (frac_1)) rfl rfl) ?_
        refine rv 4 rfl rfl rfl (q_assign (v := .float .f64 (frac_1)) rfl rfl) ?_
        refine ro_nil ?_
        refine wp_ret ?_
        exact ret_ok rfl (.cons (.tmp (v := .float .f64 (frac_1)) rfl) .nil) ⟨frac_1, rfl, h⟩
      · refine wp_skip ?_
        refine wp_seq ?_
        refine wp_text [0, 1, 2, 3, 4, 5, 6] rfl ?_
        refine rv 21 rfl rfl rfl (q_move (v := .float .f64 (frac_1)) rfl rfl) ?_
        refine ro_wp rfl (.free rfl) (wp_cl (d := (some 22)) rfl (q_call (k := 109) (l := [.float .f64 (frac_1)]) rfl ent109 rfl) h ?_)
        intro r8 w7 h
        refine rv 20 rfl rfl rfl (q_move (v := (tTup2 tFlt (tInt .i64)).enc (r8)) rfl rfl) ?_
        refine rv 23 rfl rfl rfl (q_extract (vs := #[.float .f64 (r8.1), .int .i64 (r8.2)]) (v := .float .f64 (r8.1)) rfl rfl rfl) ?_
        refine rv 24 rfl rfl rfl (q_extract (vs := #[.float .f64 (r8.1), .int .i64 (r8.2)]) (v := .int .i64 (r8.2)) rfl rfl rfl) ?_
        refine rv 0 rfl rfl rfl (q_assign (v := .float .f64 (r8.1)) rfl rfl) ?_
        refine rv 5 rfl rfl rfl (q_assign (v := .int .i64 (r8.2)) rfl rfl) ?_
        refine ro_nil ?_
        refine wp_seq ?_
        refine wp_text [0, 1, 2, 3] rfl ?_
        refine rv 25 rfl rfl rfl (q_move (v := .int .i64 (exp_2)) rfl rfl) ?_
        refine rv 26 rfl rfl rfl (q_move (v := .int .i64 (r8.2)) rfl rfl) ?_
        refine rv 27 rfl rfl rfl (q_add (a := exp_2) (b := r8.2) rfl rfl rfl) ?_
        refine rv 1 rfl rfl rfl (q_assign (v := .int .i64 ((IntKind.i64.wrap (exp_2 + r8.2)))) rfl rfl) ?_
        refine ro_nil ?_
        refine wp_seq ?_
        refine wp_text [0, 1, 2] rfl ?_
        refine rv 28 rfl rfl rfl (q_move (v := .float .f64 (r8.1)) rfl rfl) ?_
        refine rv 29 rfl rfl rfl (q_f64bits (b := r8.1) rfl ext72 rfl) ?_
        refine rv 6 rfl rfl rfl (q_assign (v := .int .u64 ((r8.1 : Int))) rfl rfl) ?_
        refine ro_nil ?_
        refine wp_seq ?_
        refine wp_text [0, 1, 2, 3, 4, 5, 6, 7] rfl ?_
        refine rv 30 rfl rfl rfl (q_move (v := .int .i64 ((IntKind.i64.wrap (exp_2 + r8.2)))) rfl rfl) ?_
        refine rv 31 rfl rfl rfl (q_move (v := .int .u64 ((r8.1 : Int))) rfl rfl) ?_
        obtain ⟨d9, hd9, h⟩ := h
        refine rv 32 rfl rfl rfl (q_shr (a := (r8.1 : Int)) (b := (52 : Int)) (r := d9) rfl rfl rfl hd9) ?_
        refine rv 33 rfl rfl rfl (q_cvtI (a := d9) rfl Tryz.underlying122 Tryz.underlying3 rfl) ?_
        refine rv 34 rfl rfl rfl (q_and (a := (IntKind.i64.wrap d9)) (b := (2047 : Int)) rfl rfl rfl) ?_
        refine rv 35 rfl rfl rfl (q_sub (a := (bits .and .i64 (IntKind.i64.wrap d9) (2047 : Int))) (b := (1023 : Int)) rfl rfl rfl) ?_
        refine rv 36 rfl rfl rfl (q_add (a := (IntKind.i64.wrap (exp_2 + r8.2))) (b := (IntKind.i64.wrap ((bits .and .i64 (IntKind.i64.wrap d9) (2047 : Int)) - (1023 : Int)))) rfl rfl rfl) ?_
        refine rv 1 rfl rfl rfl (q_assign (v := .int .i64 ((IntKind.i64.wrap ((IntKind.i64.wrap (exp_2 + r8.2)) + (IntKind.i64.wrap ((bits .and .i64 (IntKind.i64.wrap d9) (2047 : Int)) - (1023 : Int))))))) rfl rfl) ?_
        refine ro_nil ?_
        refine wp_seq ?_
        refine wp_seq ?_
        refine wp_text [0, 1] rfl ?_
        refine rv 37 rfl rfl rfl (q_move (v := .int .i64 ((IntKind.i64.wrap ((IntKind.i64.wrap (exp_2 + r8.2)) + (IntKind.i64.wrap ((bits .and .i64 (IntKind.i64.wrap d9) (2047 : Int)) - (1023 : Int))))))) rfl rfl) ?_
        refine rv 38 rfl rfl rfl (q_lss (a := (IntKind.i64.wrap ((IntKind.i64.wrap (exp_2 + r8.2)) + (IntKind.i64.wrap ((bits .and .i64 (IntKind.i64.wrap d9) (2047 : Int)) - (1023 : Int)))))) (b := (-1075 : Int)) rfl rfl rfl) ?_
        refine ro_nil ?_
        refine wp_if (b := (decide ((IntKind.i64.wrap ((IntKind.i64.wrap (exp_2 + r8.2)) + (IntKind.i64.wrap ((bits .and .i64 (IntKind.i64.wrap d9) (2047 : Int)) - (1023 : Int))))) < (-1075 : Int)))) rfl h (fun hb24 h => ?_) (fun hb24 h => ?_)
        · refine wp_seq ?_
          refine wp_text [0, 1, 2] rfl ?_
          refine rv 39 rfl rfl rfl (q_move (v := .float .f64 (r8.1)) rfl rfl) ?_
          refine ro_wp rfl (.free rfl) (wp_cl (d := (some 40)) rfl (q_call (k := 110) (l := [.float .f64 ((0 : Nat)), .float .f64 (r8.1)]) rfl ent110 rfl) h ?_)
          intro r11 w10 h
          refine rv 4 rfl rfl rfl (q_assign (v := .float .f64 (r11)) rfl rfl) ?_
          refine ro_nil ?_
          refine wp_ret ?_
          exact ret_ok rfl (.cons (.tmp (v := .float .f64 (r11)) rfl) .nil) ⟨r11, rfl, h⟩
        · refine wp_skip ?_
          refine wp_seq ?_
          refine wp_seq ?_
          refine wp_text [0, 1] rfl ?_
          refine rv 41 rfl rfl rfl (q_move (v := .int .i64 ((IntKind.i64.wrap ((IntKind.i64.wrap (exp_2 + r8.2)) + (IntKind.i64.wrap ((bits .and .i64 (IntKind.i64.wrap d9) (2047 : Int)) - (1023 : Int))))))) rfl rfl) ?_
          refine rv 42 rfl rfl rfl (q_gtr (a := (IntKind.i64.wrap ((IntKind.i64.wrap (exp_2 + r8.2)) + (IntKind.i64.wrap ((bits .and .i64 (IntKind.i64.wrap d9) (2047 : Int)) - (1023 : Int)))))) (b := (1023 : Int)) rfl rfl rfl) ?_
          refine ro_nil ?_
          refine wp_if (b := (decide ((IntKind.i64.wrap ((IntKind.i64.wrap (exp_2 + r8.2)) + (IntKind.i64.wrap ((bits .and .i64 (IntKind.i64.wrap d9) (2047 : Int)) - (1023 : Int))))) > (1023 : Int)))) rfl h (fun hb23 h => ?_) (fun hb23 h => ?_)
          · refine wp_seq ?_
            refine wp_seq ?_
            refine wp_text [0, 1] rfl ?_
            refine rv 43 rfl rfl rfl (q_move (v := .float .f64 (r8.1)) rfl rfl) ?_
            refine rv 44 rfl rfl rfl (q_fcmp (op := .lss) (a := r8.1) (b := (0 : Nat)) rfl (by decide) rfl rfl) ?_
            refine ro_nil ?_
            refine wp_if (b := (fcmp .lss r8.1 (0 : Nat))) rfl h (fun hb16 h => ?_) (fun hb16 h => ?_)
            · refine wp_seq ?_
              refine wp_text [0, 1] rfl ?_
              refine ro_wp rfl (.free rfl) (wp_cl (d := (some 45)) rfl (q_call (k := 111) (l := [.int .i64 ((-1 : Int))]) rfl ent111 rfl) h ?_)
              intro r13 w12 h
              refine rv 4 rfl rfl rfl (q_assign (v := .float .f64 (r13)) rfl rfl) ?_
              refine ro_nil ?_
              refine wp_ret ?_
              exact ret_ok rfl (.cons (.tmp (v := .float .f64 (r13)) rfl) .nil) ⟨r13, rfl, h⟩
            · refine wp_skip ?_
              refine wp_seq ?_
              refine wp_text [0, 1] rfl ?_
              refine ro_wp rfl (.free rfl) (wp_cl (d := (some 46)) rfl (q_call (k := 111) (l := [.int .i64 ((1 : Int))]) rfl ent111 rfl) h ?_)
              intro r15 w14 h
              refine rv 4 rfl rfl rfl (q_assign (v := .float .f64 (r15)) rfl rfl) ?_
              refine ro_nil ?_
              refine wp_ret ?_
              exact ret_ok rfl (.cons (.tmp (v := .float .f64 (r15)) rfl) .nil) ⟨r15, rfl, h⟩
          · refine wp_skip ?_
            refine wp_seq ?_
            refine wp_text [0] rfl ?_
            refine rv 7 rfl rfl rfl (q_assign (v := .float .f64 ((4607182418800017408 : Nat))) rfl rfl) ?_
            refine ro_nil ?_
            refine seq_join (σ := Int × Nat) (J := fun (s : Int × Nat) w => F105_j2 r8 s.1 s.2 w R) (fr := fun g (s : Int × Nat) => upd (upd (upd (g) 6 (.int .u64 ((r8.1 : Int)))) 1 (.int .i64 (s.1))) 7 (.float .f64 (s.2))) ?_ ?_
            · rintro ⟨exp_17, m_18⟩ g w19 h
              unfold F105_j2 at h
              refine wp_seq ?_
              refine wp_text [0, 1, 2] rfl ?_
              refine rv 51 rfl rfl rfl (q_move (v := .int .u64 ((r8.1 : Int))) rfl rfl) ?_
              refine rv 52 rfl rfl rfl (q_andNot (a := (r8.1 : Int)) (b := (9218868437227405312 : Int)) rfl rfl rfl) ?_
              refine rv 6 rfl rfl rfl (q_assign (v := .int .u64 ((bits .andNot .u64 (r8.1 : Int) (9218868437227405312 : Int)))) rfl rfl) ?_
              refine ro_nil ?_
              refine wp_seq ?_
              refine wp_text [0, 1, 2, 3, 4, 5, 6] rfl ?_
              refine rv 53 rfl rfl rfl (q_move (v := .int .u64 ((bits .andNot .u64 (r8.1 : Int) (9218868437227405312 : Int)))) rfl rfl) ?_
              refine rv 54 rfl rfl rfl (q_move (v := .int .i64 (exp_17)) rfl rfl) ?_
              refine rv 55 rfl rfl rfl (q_add (a := exp_17) (b := (1023 : Int)) rfl rfl rfl) ?_
              refine rv 56 rfl rfl rfl (q_cvtI (a := (IntKind.i64.wrap (exp_17 + (1023 : Int)))) rfl Tryz.underlying3 Tryz.underlying122 rfl) ?_
              obtain ⟨d20, hd20, h⟩ := h
              refine rv 57 rfl rfl rfl (q_shl (a := (IntKind.u64.wrap (IntKind.i64.wrap (exp_17 + (1023 : Int))))) (b := (52 : Int)) (r := d20) rfl rfl rfl hd20) ?_
              refine rv 58 rfl rfl rfl (q_or (a := (bits .andNot .u64 (r8.1 : Int) (9218868437227405312 : Int))) (b := d20) rfl rfl rfl) ?_
              refine rv 6 rfl rfl rfl (q_assign (v := .int .u64 ((bits .or .u64 (bits .andNot .u64 (r8.1 : Int) (9218868437227405312 : Int)) d20))) rfl rfl) ?_
              refine ro_nil ?_
              refine wp_seq ?_
              refine wp_text [0, 1, 2, 3, 4] rfl ?_
              refine rv 59 rfl rfl rfl (q_move (v := .float .f64 (m_18)) rfl rfl) ?_
              refine rv 60 rfl rfl rfl (q_move (v := .int .u64 ((bits .or .u64 (bits .andNot .u64 (r8.1 : Int) (9218868437227405312 : Int)) d20))) rfl rfl) ?_
              refine rv 61 rfl rfl rfl (q_f64from (b := (bits .or .u64 (bits .andNot .u64 (r8.1 : Int) (9218868437227405312 : Int)) d20)) rfl ext106 rfl) ?_
              obtain ⟨z21, hz21, h⟩ := h
              refine rv 62 rfl rfl rfl (q_farith (op := .mul) (a := m_18) (b := (Int.toNat (bits .or .u64 (bits .andNot .u64 (r8.1 : Int) (9218868437227405312 : Int)) d20))) (r := z21) rfl rfl rfl rfl hz21) ?_
              refine rv 4 rfl rfl rfl (q_assign (v := .float .f64 (z21)) rfl rfl) ?_
              refine ro_nil ?_
              refine wp_ret ?_
              exact ret_ok rfl (.cons (.tmp (v := .float .f64 (z21)) rfl) .nil) ⟨z21, rfl, h⟩
            · refine wp_seq ?_
              refine wp_text [0, 1] rfl ?_
              refine rv 47 rfl rfl rfl (q_move (v := .int .i64 ((IntKind.i64.wrap ((IntKind.i64.wrap (exp_2 + r8.2)) + (IntKind.i64.wrap ((bits .and .i64 (IntKind.i64.wrap d9) (2047 : Int)) - (1023 : Int))))))) rfl rfl) ?_
              refine rv 48 rfl rfl rfl (q_lss (a := (IntKind.i64.wrap ((IntKind.i64.wrap (exp_2 + r8.2)) + (IntKind.i64.wrap ((bits .and .i64 (IntKind.i64.wrap d9) (2047 : Int)) - (1023 : Int)))))) (b := (-1022 : Int)) rfl rfl rfl) ?_
              refine ro_nil ?_
              refine wp_if (b := (decide ((IntKind.i64.wrap ((IntKind.i64.wrap (exp_2 + r8.2)) + (IntKind.i64.wrap ((bits .and .i64 (IntKind.i64.wrap d9) (2047 : Int)) - (1023 : Int))))) < (-1022 : Int)))) rfl h (fun hb22 h => ?_) (fun hb22 h => ?_)
              · refine wp_seq ?_
                refine wp_text [0, 1, 2] rfl ?_
                refine rv 49 rfl rfl rfl (q_move (v := .int .i64 ((IntKind.i64.wrap ((IntKind.i64.wrap (exp_2 + r8.2)) + (IntKind.i64.wrap ((bits .and .i64 (IntKind.i64.wrap d9) (2047 : Int)) - (1023 : Int))))))) rfl rfl) ?_
                refine rv 50 rfl rfl rfl (q_add (a := (IntKind.i64.wrap ((IntKind.i64.wrap (exp_2 + r8.2)) + (IntKind.i64.wrap ((bits .and .i64 (IntKind.i64.wrap d9) (2047 : Int)) - (1023 : Int)))))) (b := (53 : Int)) rfl rfl rfl) ?_
                refine rv 1 rfl rfl rfl (q_assign (v := .int .i64 ((IntKind.i64.wrap ((IntKind.i64.wrap ((IntKind.i64.wrap (exp_2 + r8.2)) + (IntKind.i64.wrap ((bits .and .i64 (IntKind.i64.wrap d9) (2047 : Int)) - (1023 : Int))))) + (53 : Int))))) rfl rfl) ?_
                refine ro_nil ?_
                refine wp_text [0] rfl ?_
                refine rv 7 rfl rfl rfl (q_assign (v := .float .f64 ((4368491638549381120 : Nat))) rfl rfl) ?_
                refine ro_nil ?_
                exact ⟨((IntKind.i64.wrap ((IntKind.i64.wrap ((IntKind.i64.wrap (exp_2 + r8.2)) + (IntKind.i64.wrap ((bits .and .i64 (IntKind.i64.wrap d9) (2047 : Int)) - (1023 : Int))))) + (53 : Int))), (4368491638549381120 : Nat)), _, arr (upd_step (upd_step (upd_step rfl rfl) rfl) rfl), h⟩
              · refine wp_skip ?_
                exact ⟨((IntKind.i64.wrap ((IntKind.i64.wrap (exp_2 + r8.2)) + (IntKind.i64.wrap ((bits .and .i64 (IntKind.i64.wrap d9) (2047 : Int)) - (1023 : Int))))), (4607182418800017408 : Nat)), _, arr (upd_step (upd_step (upd_step rfl rfl) rfl) rfl), h⟩
    · refine ro_if (b := r4) h (fun hb26 h => ?_) (fun hb26 h => ?_)
      · refine ro_bar (d := (some 16)) rfl (.by_ 2 false 15 r4 rfl rfl rfl hb26) rfl ?_
        refine ro_bar (d := (some 17)) rfl (.by_ 2 false 15 r4 rfl rfl rfl hb26) rfl ?_
        refine rv 18 rfl rfl rfl (q_pickT (v := .bool (true)) (b := r4) rfl rfl hb26 rfl) ?_
        refine ro_nil ?_
        exact ⟨(true), _, arr (upd_step (upd_step (upd_step rfl rfl) rfl) rfl), h⟩
      · refine ro_val (d := (some 16)) rfl (.by_ 2 false 15 r4 rfl rfl rfl hb26) rfl (q_move (v := .float .f64 (frac_1)) rfl rfl) ?_
        refine ro_wp rfl (.by_ 2 false 15 r4 rfl rfl rfl hb26) (wp_cl (d := (some 17)) rfl (q_call (k := 108) (l := [.float .f64 (frac_1)]) rfl ent108 rfl) h ?_)
        intro r28 w27 h
        refine rv 18 rfl rfl rfl (q_pickF (v := .bool (r28)) (b := r4) rfl rfl hb26 rfl) ?_
        refine ro_nil ?_
        exact ⟨(r28), _, arr (upd_step (upd_step (upd_step rfl rfl) rfl) rfl), h⟩

-- math.IsNaN
def F108 (f_1 : Nat) (w : World) (R : Bool → World → Prop) : Prop :=
  R (fcmp .neq f_1 f_1) w
theorem F108_ok {f_1 : Nat} {w : World} {R : Bool → World → Prop} (h : F108 f_1 w R) : cl Tryz.prog 108 [.float .f64 (f_1)] tBool w R := by
  unfold F108 at h
  refine calls_start 6 Tryz.func108 rfl rfl (Nat.le_of_ble_eq_true rfl) ?_
  refine wp_seq ?_
  refine wp_text [0] rfl ?_
  refine rv 2 rfl rfl rfl (q_assign (v := .bool (false)) rfl rfl) ?_
  refine ro_nil ?_
  refine wp_seq ?_
  refine wp_text [0, 1, 2, 3] rfl ?_
  refine rv 3 rfl rfl rfl (q_move (v := .float .f64 (f_1)) rfl rfl) ?_
  refine rv 4 rfl rfl rfl (q_move (v := .float .f64 (f_1)) rfl rfl) ?_
  refine rv 5 rfl rfl rfl (q_fcmp (op := .neq) (a := f_1) (b := f_1) rfl (by decide) rfl rfl) ?_
  refine rv 2 rfl rfl rfl (q_assign (v := .bool ((fcmp .neq f_1 f_1))) rfl rfl) ?_
  refine ro_nil ?_
  refine wp_ret ?_
  exact ret_ok rfl (.cons (.tmp (v := .bool ((fcmp .neq f_1 f_1))) rfl) .nil) ⟨(fcmp .neq f_1 f_1), rfl, h⟩

-- math.normalize
def F109 (x_1 : Nat) (w : World) (R : (Nat × Int) → World → Prop) : Prop :=
  cl Tryz.prog 95 [.float .f64 (x_1)] tFlt w fun r3 w2 =>
  if (fcmp .lss r3 (4503599627370496 : Nat)) = true then (
    ex (FArith .mul x_1 (4841369599423283200 : Nat)) fun z4 =>
    R (z4, (-52 : Int)) w2
  ) else (
    R (x_1, (0 : Int)) w2
  )
theorem F109_ok {x_1 : Nat} {w : World} {R : (Nat × Int) → World → Prop} (h : F109 x_1 w R) : cl Tryz.prog 109 [.float .f64 (x_1)] (tTup2 tFlt (tInt .i64)) w R := by
  unfold F109 at h
  refine calls_start 10 Tryz.func109 rfl rfl (Nat.le_of_ble_eq_true rfl) ?_
  refine wp_seq ?_
  refine wp_text [0, 1] rfl ?_
  refine rv 2 rfl rfl rfl (q_assign (v := .float .f64 ((0 : Nat))) rfl rfl) ?_
  refine rv 3 rfl rfl rfl (q_assign (v := .int .i64 ((0 : Int))) rfl rfl) ?_
  refine ro_nil ?_
  refine wp_seq ?_
  refine wp_seq ?_
  refine wp_text [0, 1, 2] rfl ?_
  refine rv 4 rfl rfl rfl (q_move (v := .float .f64 (x_1)) rfl rfl) ?_
  refine ro_wp rfl (.free rfl) (wp_cl (d := (some 5)) rfl (q_call (k := 95) (l := [.float .f64 (x_1)]) rfl ent95 rfl) h ?_)
  intro r3 w2 h
  refine rv 6 rfl rfl rfl (q_fcmp (op := .lss) (a := r3) (b := (4503599627370496 : Nat)) rfl (by decide) rfl rfl) ?_
  refine ro_nil ?_
  refine wp_if (b := (fcmp .lss r3 (4503599627370496 : Nat))) rfl h (fun hb5 h => ?_) (fun hb5 h => ?_)
  · refine wp_seq ?_
    refine wp_text [0, 1, 2, 3] rfl ?_
    refine rv 7 rfl rfl rfl (q_move (v := .float .f64 (x_1)) rfl rfl) ?_
    obtain ⟨z4, hz4, h⟩ := h
    refine rv 8 rfl rfl rfl (q_farith (op := .mul) (a := x_1) (b := (4841369599423283200 : Nat)) (r := z4) rfl rfl rfl rfl hz4) ?_
    refine rv 2 rfl rfl rfl (q_assign (v := .float .f64 (z4)) rfl rfl) ?_
    refine rv 3 rfl rfl rfl (q_assign (v := .int .i64 ((-52 : Int))) rfl rfl) ?_
    refine ro_nil ?_
    refine wp_ret ?_
    exact ret_ok rfl (.cons (.tmp (v := .float .f64 (z4)) rfl) (.cons (.tmp (v := .int .i64 ((-52 : Int))) rfl) .nil)) ⟨(z4, (-52 : Int)), rfl, h⟩
  · refine wp_skip ?_
    refine wp_seq ?_
    refine wp_text [0, 1, 2] rfl ?_
    refine rv 9 rfl rfl rfl (q_move (v := .float .f64 (x_1)) rfl rfl) ?_
    refine rv 2 rfl rfl rfl (q_assign (v := .float .f64 (x_1)) rfl rfl) ?_
    refine rv 3 rfl rfl rfl (q_assign (v := .int .i64 ((0 : Int))) rfl rfl) ?_
    refine ro_nil ?_
    refine wp_ret ?_
    exact ret_ok rfl (.cons (.tmp (v := .float .f64 (x_1)) rfl) (.cons (.tmp (v := .int .i64 ((0 : Int))) rfl) .nil)) ⟨(x_1, (0 : Int)), rfl, h⟩

end Go.Proofs.YtpdaapffkdejoaaGreat.Cf
