/- Own texts of this claim, part 3: short, merged. -/
import Derived.Below
import Derived.ProofKit
import Derived.Deep.Slices
import Derived.Laws.AppendOwn
import Derived.Laws.BitsLemmas
import Derived.Test.YtehclfjjjiiieaaGreatZ2
namespace Go.Proofs.YtehclfjjjiiieaaGreat.Cf
open Go
set_option maxRecDepth 100000
set_option maxHeartbeats 1000000
set_option linter.unusedVariables false
set_option linter.unusedSimpArgs false
def F152_l1 (f_2 : Fv) (i_3 : Int) (j_4 : Int) (w5 : World) (K6 : Int × Int → World → Prop) (R : Int → World → Prop) : Prop :=
 if (decide (i_3 < j_4)) = true then (
  ex (Shift (1 : Int) (Int.fdiv (IntKind.u64.wrap (IntKind.i64.wrap (i_3 + j_4))) (2 ^ (min ((1 : Int)).toNat IntKind.u64.bits)))) fun d7 =>
  clv Tryz.prog f_2 [.int .i64 ((IntKind.i64.wrap d7))] tBool w5 fun r9 w8 =>
  if (!r9) = true then (
   K6 ((IntKind.i64.wrap ((IntKind.i64.wrap d7) + (1 : Int))), j_4) w8
  ) else (
   K6 (i_3, (IntKind.i64.wrap d7)) w8
  )
 ) else (
  R i_3 w5
 )
def F152 (n_1 : Int) (f_2 : Fv) (w : World) (R : Int → World → Prop) : Prop :=
 lp (fun (s : Int × Int) w K => F152_l1 f_2 s.1 s.2 w K R) ((0 : Int), n_1) w
theorem F152_ok {n_1 : Int} {f_2 : Fv} {w : World} {R : Int → World → Prop} (h : F152 n_1 f_2 w R) : cl Tryz.prog 152 [.int .i64 (n_1), (f_2).enc] (tInt .i64) w R := by
 unfold F152 at h
 refine calls_start 26 Tryz.func152 rfl rfl (Nat.le_of_ble_eq_true rfl) <| wp_seq <| wp_text [0] rfl <| za 4 (.int .i64 ((0 : Int))) rfl rfl <| ro_nil <| wp_seq <| wp_text [0, 1, 2] rfl <| zm 8 (.int .i64 (n_1)) rfl rfl <| za 5 (.int .i64 ((0 : Int))) rfl rfl <| za 6 (.int .i64 (n_1)) rfl rfl <| ro_nil <| wp_seq ?_
 refine wp_block <| loop_at (σ := Int × Int) (fr := fun g (s : Int × Int) => upd (upd (upd (g) 1 ((f_2).enc)) 5 (.int .i64 (s.1))) 6 (.int .i64 (s.2))) (s0 := ((0 : Int), n_1)) (upd_step (upd_step (upd_step rfl rfl) rfl) rfl) h ?_
 rintro ⟨i_3, j_4⟩ g w5 K6 h
 unfold F152_l1 at h
 refine wp_seq <| wp_seq <| wp_text [0, 1, 2] rfl <| zm 9 (.int .i64 (i_3)) rfl rfl <| zm 10 (.int .i64 (j_4)) rfl rfl <| rv 11 rfl rfl rfl (q_lss (a := i_3) (b := j_4) rfl rfl rfl) <| ro_nil <| zi h rfl (fun _ h => ?_) fun _ h => ?_
 ·refine wp_skip <| wp_block <| wp_seq <| wp_text [0, 1, 2, 3, 4, 5, 6] rfl <| zm 12 (.int .i64 (i_3)) rfl rfl <| zm 13 (.int .i64 (j_4)) rfl rfl <| rv 14 rfl rfl rfl (q_add (a := i_3) (b := j_4) rfl rfl rfl) <| rv 15 rfl rfl rfl (q_cvtI (a := (IntKind.i64.wrap (i_3 + j_4))) rfl Tryz.underlying3 Tryz.underlying175 rfl) ?_
  obtain ⟨d7, hd7, h⟩ := h
  refine rv 16 rfl rfl rfl (q_shr (a := (IntKind.u64.wrap (IntKind.i64.wrap (i_3 + j_4)))) (b := (1 : Int)) (r := d7) rfl rfl rfl hd7) <| rv 17 rfl rfl rfl (q_cvtI (a := d7) rfl Tryz.underlying175 Tryz.underlying3 rfl) <| za 7 (.int .i64 ((IntKind.i64.wrap d7))) rfl rfl <| ro_nil <| wp_seq <| wp_text [0, 1, 2, 3] rfl <| zm 18 ((f_2).enc) rfl rfl <| zm 19 (.int .i64 ((IntKind.i64.wrap d7))) rfl rfl <| ro_wp rfl (.free rfl) (wp_clv (d := (some 20)) (l := [.int .i64 ((IntKind.i64.wrap d7))]) (fv := f_2) rfl rfl rfl rfl h ?_)
  intro r9 w8 h
  refine rv 21 rfl rfl rfl (q_not (b := r9) rfl rfl) <| ro_nil <| zi h rfl (fun _ h => ?_) fun _ h => ?_
  ·refine wp_text [0, 1, 2] rfl <| zm 22 (.int .i64 ((IntKind.i64.wrap d7))) rfl rfl <| rv 23 rfl rfl rfl (q_add (a := (IntKind.i64.wrap d7)) (b := (1 : Int)) rfl rfl rfl) <| za 5 (.int .i64 ((IntKind.i64.wrap ((IntKind.i64.wrap d7) + (1 : Int))))) rfl rfl <| ro_nil ?_
   exact ⟨((IntKind.i64.wrap ((IntKind.i64.wrap d7) + (1 : Int))), j_4), _, arr (upd_step (upd_step (upd_step rfl rfl) rfl) rfl), h⟩
  ·refine wp_text [0, 1] rfl <| zm 24 (.int .i64 ((IntKind.i64.wrap d7))) rfl rfl <| za 6 (.int .i64 ((IntKind.i64.wrap d7))) rfl rfl <| ro_nil ?_
   exact ⟨(i_3, (IntKind.i64.wrap d7)), _, arr (upd_step (upd_step (upd_step rfl rfl) rfl) rfl), h⟩
 ·refine wp_exit <| wp_seq <| wp_text [0, 1] rfl <| zm 25 (.int .i64 (i_3)) rfl rfl <| za 4 (.int .i64 (i_3)) rfl rfl <| ro_nil <| wp_ret ?_
  exact zr1 h rfl rfl
def F153 (i_1 : Int) (t_2 : Addr) (t_3 : Addr) (w : World) (R : Bool → World → Prop) : Prop :=
 dr w fun w4 =>
 ex (RdAt tPtr t_2 w4) fun x5 =>
 ex (NC x5) fun a6 =>
 ex (RdAt tSlc (a6.add 0) w4) fun x7 =>
 ex (IxA x7 2 i_1) fun a8 =>
 ex (RdAt (tInt .i64) (a8.add 0) w4) fun x9 =>
 ex (RdAt (tInt .i64) t_3 w4) fun x10 =>
 R (decide (x9 > x10)) w4
theorem F153_ok {i_1 : Int} {t_2 : Addr} {t_3 : Addr} {w : World} {R : Bool → World → Prop} (h : F153 i_1 t_2 t_3 w R) : cl Tryz.prog 153 [.int .i64 (i_1), .pointer (some t_2), .pointer (some t_3)] tBool w R := by
 unfold F153 at h
 refine calls_start 15 Tryz.func153 rfl rfl (Nat.le_of_ble_eq_true rfl) <| wp_seq <| wp_text [0] rfl <| za 4 (.bool (false)) rfl rfl <| ro_nil <| wp_seq ?_
 obtain ⟨w4, hw4, h⟩ := dr_open h
 refine wp_drawn 11 mixed rfl (by kernel_rfl) (by intro c a d v w h; cases d <;> exact h) hw4 (fun hD => ?_)
 refine ym 4 9 (.int .i64 (i_1)) hD rfl rfl ?_
 obtain ⟨x5, hx5, h⟩ := h
 refine yr 0 5 hx5 ok165 hD rfl rfl ?_
 obtain ⟨a6, ha6, h⟩ := h
 refine yn 1 6 ha6 hD rfl rfl <| yf 2 7 a6 0 Tryz.underlying199 ok197 hD rfl rfl rfl ?_
 obtain ⟨x7, hx7, h⟩ := h
 refine yr 3 8 hx7 ok197 hD rfl rfl ?_
 obtain ⟨a8, ha8, h⟩ := h
 refine rp 5 10 hD rfl rfl rfl (fun _ => q_indexAddr (s := x7) (k := .i64) (i := i_1) rfl Tryz.underlying197 ok118 rfl rfl ha8) <| yf 6 11 a8 0 Tryz.underlying118 ok2 hD rfl rfl rfl ?_
 obtain ⟨x9, hx9, h⟩ := h
 refine yr 7 12 hx9 ok2 hD rfl rfl ?_
 obtain ⟨x10, hx10, h⟩ := h
 refine yr 8 13 hx10 ok2 hD rfl rfl <| rp 9 14 hD rfl rfl rfl (fun _ => q_gtr (a := x9) (b := x10) rfl rfl rfl) <| ya 10 4 (.bool ((decide (x9 > x10)))) hD rfl rfl <| rd_nil (by kernel_rfl) <| wp_ret ?_
 exact zr1 h rfl rfl
def F154 (f_1 : Nat) (w : World) (R : (Nat × Int) → World → Prop) : Prop :=
 cl Tryz.prog 167 [.float .f64 (f_1)] (tTup2 tFlt (tInt .i64)) w fun r3 w2 =>
 R (r3.1, r3.2) w2
theorem F154_ok {f_1 : Nat} {w : World} {R : (Nat × Int) → World → Prop} (h : F154 f_1 w R) : cl Tryz.prog 154 [.float .f64 (f_1)] (tTup2 tFlt (tInt .i64)) w R := by
 unfold F154 at h
 refine calls_start 12 Tryz.func154 rfl rfl (Nat.le_of_ble_eq_true rfl) <| wp_seq <| wp_text [0, 1] rfl <| za 2 (.float .f64 ((0 : Nat))) rfl rfl <| za 3 (.int .i64 ((0 : Int))) rfl rfl <| ro_nil <| wp_seq <| wp_no rfl <| wp_skip <| wp_seq <| wp_text [0, 1, 2, 3, 4, 5] rfl <| zm 8 (.float .f64 (f_1)) rfl rfl ?_
 refine zc ent167 rfl rfl h fun r3 w2 h => ze 10 (.float .f64 (r3.1)) rfl rfl rfl <| ze 11 (.int .i64 (r3.2)) rfl rfl rfl <| za 2 (.float .f64 (r3.1)) rfl rfl <| za 3 (.int .i64 (r3.2)) rfl rfl <| ro_nil <| wp_ret ?_
 exact zr2 h rfl rfl
def F155 (frac_1 : Nat) (exp_2 : Int) (w : World) (R : Nat → World → Prop) : Prop :=
 cl Tryz.prog 169 [.float .f64 (frac_1), .int .i64 (exp_2)] tFlt w fun r4 w3 =>
 R r4 w3
theorem F155_ok {frac_1 : Nat} {exp_2 : Int} {w : World} {R : Nat → World → Prop} (h : F155 frac_1 exp_2 w R) : cl Tryz.prog 155 [.float .f64 (frac_1), .int .i64 (exp_2)] tFlt w R := by
 unfold F155 at h
 refine calls_start 11 Tryz.func155 rfl rfl (Nat.le_of_ble_eq_true rfl) <| wp_seq <| wp_text [0] rfl <| za 4 (.float .f64 ((0 : Nat))) rfl rfl <| ro_nil <| wp_seq <| wp_no rfl <| wp_skip <| wp_seq <| wp_text [0, 1, 2, 3] rfl <| zm 8 (.float .f64 (frac_1)) rfl rfl <| zm 9 (.int .i64 (exp_2)) rfl rfl ?_
 refine zc ent169 rfl rfl h fun r4 w3 h => za 4 (.float .f64 (r4)) rfl rfl <| ro_nil <| wp_ret ?_
 exact zr1 h rfl rfl
def F156 (x_1 : Int) (y_2 : Int) (w : World) (R : (Int × Int) → World → Prop) : Prop :=
 ex (Shift (32 : Int) (Int.fdiv x_1 (2 ^ (min ((32 : Int)).toNat IntKind.u64.bits)))) fun d3 =>
 ex (Shift (32 : Int) (Int.fdiv y_2 (2 ^ (min ((32 : Int)).toNat IntKind.u64.bits)))) fun d4 =>
 ex (Shift (32 : Int) (Int.fdiv (IntKind.u64.wrap ((bits .and .u64 x_1 (4294967295 : Int)) * (bits .and .u64 y_2 (4294967295 : Int)))) (2 ^ (min ((32 : Int)).toNat IntKind.u64.bits)))) fun d5 =>
 ex (Shift (32 : Int) (Int.fdiv (IntKind.u64.wrap ((IntKind.u64.wrap (d3 * (bits .and .u64 y_2 (4294967295 : Int)))) + d5)) (2 ^ (min ((32 : Int)).toNat IntKind.u64.bits)))) fun d6 =>
 ex (Shift (32 : Int) (Int.fdiv (IntKind.u64.wrap ((bits .and .u64 (IntKind.u64.wrap ((IntKind.u64.wrap (d3 * (bits .and .u64 y_2 (4294967295 : Int)))) + d5)) (4294967295 : Int)) + (IntKind.u64.wrap ((bits .and .u64 x_1 (4294967295 : Int)) * d4)))) (2 ^ (min ((32 : Int)).toNat IntKind.u64.bits)))) fun d7 =>
 R ((IntKind.u64.wrap ((IntKind.u64.wrap ((IntKind.u64.wrap (d3 * d4)) + d6)) + d7)), (IntKind.u64.wrap (x_1 * y_2))) w
theorem F156_ok {x_1 : Int} {y_2 : Int} {w : World} {R : (Int × Int) → World → Prop} (h : F156 x_1 y_2 w R) : cl Tryz.prog 156 [.int .u64 (x_1), .int .u64 (y_2)] (tTup2 (tInt .u64) (tInt .u64)) w R := by
 unfold F156 at h
 refine calls_start 51 Tryz.func156 rfl rfl (Nat.le_of_ble_eq_true rfl) <| wp_seq <| wp_text [0, 1] rfl <| za 4 (.int .u64 ((0 : Int))) rfl rfl <| za 5 (.int .u64 ((0 : Int))) rfl rfl <| ro_nil <| wp_seq <| wp_text [0, 1, 2] rfl <| zm 14 (.int .u64 (x_1)) rfl rfl <| rv 15 rfl rfl rfl (q_and (a := x_1) (b := (4294967295 : Int)) rfl rfl rfl) <| za 6 (.int .u64 ((bits .and .u64 x_1 (4294967295 : Int)))) rfl rfl <| ro_nil ?_
 refine wp_seq <| wp_text [0, 1, 2] rfl <| zm 16 (.int .u64 (x_1)) rfl rfl ?_
 obtain ⟨d3, hd3, h⟩ := h
 refine rv 17 rfl rfl rfl (q_shr (a := x_1) (b := (32 : Int)) (r := d3) rfl rfl rfl hd3) <| za 7 (.int .u64 (d3)) rfl rfl <| ro_nil <| wp_seq <| wp_text [0, 1, 2] rfl <| zm 18 (.int .u64 (y_2)) rfl rfl <| rv 19 rfl rfl rfl (q_and (a := y_2) (b := (4294967295 : Int)) rfl rfl rfl) <| za 8 (.int .u64 ((bits .and .u64 y_2 (4294967295 : Int)))) rfl rfl <| ro_nil <| wp_seq <| wp_text [0, 1, 2] rfl <| zm 20 (.int .u64 (y_2)) rfl rfl ?_
 obtain ⟨d4, hd4, h⟩ := h
 refine rv 21 rfl rfl rfl (q_shr (a := y_2) (b := (32 : Int)) (r := d4) rfl rfl rfl hd4) <| za 9 (.int .u64 (d4)) rfl rfl <| ro_nil <| wp_seq <| wp_text [0, 1, 2, 3] rfl <| zm 22 (.int .u64 ((bits .and .u64 x_1 (4294967295 : Int)))) rfl rfl <| zm 23 (.int .u64 ((bits .and .u64 y_2 (4294967295 : Int)))) rfl rfl <| rv 24 rfl rfl rfl (q_mul (a := (bits .and .u64 x_1 (4294967295 : Int))) (b := (bits .and .u64 y_2 (4294967295 : Int))) rfl rfl rfl) <| za 10 (.int .u64 ((IntKind.u64.wrap ((bits .and .u64 x_1 (4294967295 : Int)) * (bits .and .u64 y_2 (4294967295 : Int)))))) rfl rfl <| ro_nil <| wp_seq <| wp_text [0, 1, 2, 3, 4, 5, 6] rfl ?_
 refine zm 25 (.int .u64 (d3)) rfl rfl <| zm 26 (.int .u64 ((bits .and .u64 y_2 (4294967295 : Int)))) rfl rfl <| rv 27 rfl rfl rfl (q_mul (a := d3) (b := (bits .and .u64 y_2 (4294967295 : Int))) rfl rfl rfl) <| zm 28 (.int .u64 ((IntKind.u64.wrap ((bits .and .u64 x_1 (4294967295 : Int)) * (bits .and .u64 y_2 (4294967295 : Int)))))) rfl rfl ?_
 obtain ⟨d5, hd5, h⟩ := h
 refine rv 29 rfl rfl rfl (q_shr (a := (IntKind.u64.wrap ((bits .and .u64 x_1 (4294967295 : Int)) * (bits .and .u64 y_2 (4294967295 : Int))))) (b := (32 : Int)) (r := d5) rfl rfl rfl hd5) <| rv 30 rfl rfl rfl (q_add (a := (IntKind.u64.wrap (d3 * (bits .and .u64 y_2 (4294967295 : Int))))) (b := d5) rfl rfl rfl) <| za 11 (.int .u64 ((IntKind.u64.wrap ((IntKind.u64.wrap (d3 * (bits .and .u64 y_2 (4294967295 : Int)))) + d5)))) rfl rfl <| ro_nil <| wp_seq <| wp_text [0, 1, 2] rfl <| zm 31 (.int .u64 ((IntKind.u64.wrap ((IntKind.u64.wrap (d3 * (bits .and .u64 y_2 (4294967295 : Int)))) + d5)))) rfl rfl <| rv 32 rfl rfl rfl (q_and (a := (IntKind.u64.wrap ((IntKind.u64.wrap (d3 * (bits .and .u64 y_2 (4294967295 : Int)))) + d5))) (b := (4294967295 : Int)) rfl rfl rfl) <| za 12 (.int .u64 ((bits .and .u64 (IntKind.u64.wrap ((IntKind.u64.wrap (d3 * (bits .and .u64 y_2 (4294967295 : Int)))) + d5)) (4294967295 : Int)))) rfl rfl <| ro_nil <| wp_seq <| wp_text [0, 1, 2] rfl ?_
 refine zm 33 (.int .u64 ((IntKind.u64.wrap ((IntKind.u64.wrap (d3 * (bits .and .u64 y_2 (4294967295 : Int)))) + d5)))) rfl rfl ?_
 obtain ⟨d6, hd6, h⟩ := h
 refine rv 34 rfl rfl rfl (q_shr (a := (IntKind.u64.wrap ((IntKind.u64.wrap (d3 * (bits .and .u64 y_2 (4294967295 : Int)))) + d5))) (b := (32 : Int)) (r := d6) rfl rfl rfl hd6) <| za 13 (.int .u64 (d6)) rfl rfl <| ro_nil <| wp_seq <| wp_text [0, 1, 2, 3, 4, 5] rfl <| zm 35 (.int .u64 ((bits .and .u64 (IntKind.u64.wrap ((IntKind.u64.wrap (d3 * (bits .and .u64 y_2 (4294967295 : Int)))) + d5)) (4294967295 : Int)))) rfl rfl <| zm 36 (.int .u64 ((bits .and .u64 x_1 (4294967295 : Int)))) rfl rfl <| zm 37 (.int .u64 (d4)) rfl rfl <| rv 38 rfl rfl rfl (q_mul (a := (bits .and .u64 x_1 (4294967295 : Int))) (b := d4) rfl rfl rfl) <| rv 39 rfl rfl rfl (q_add (a := (bits .and .u64 (IntKind.u64.wrap ((IntKind.u64.wrap (d3 * (bits .and .u64 y_2 (4294967295 : Int)))) + d5)) (4294967295 : Int))) (b := (IntKind.u64.wrap ((bits .and .u64 x_1 (4294967295 : Int)) * d4))) rfl rfl rfl) <| za 12 (.int .u64 ((IntKind.u64.wrap ((bits .and .u64 (IntKind.u64.wrap ((IntKind.u64.wrap (d3 * (bits .and .u64 y_2 (4294967295 : Int)))) + d5)) (4294967295 : Int)) + (IntKind.u64.wrap ((bits .and .u64 x_1 (4294967295 : Int)) * d4)))))) rfl rfl <| ro_nil ?_
 refine wp_seq <| wp_text [0, 1, 2, 3, 4, 5, 6, 7, 8] rfl <| zm 40 (.int .u64 (d3)) rfl rfl <| zm 41 (.int .u64 (d4)) rfl rfl <| rv 42 rfl rfl rfl (q_mul (a := d3) (b := d4) rfl rfl rfl) <| zm 43 (.int .u64 (d6)) rfl rfl <| rv 44 rfl rfl rfl (q_add (a := (IntKind.u64.wrap (d3 * d4))) (b := d6) rfl rfl rfl) <| zm 45 (.int .u64 ((IntKind.u64.wrap ((bits .and .u64 (IntKind.u64.wrap ((IntKind.u64.wrap (d3 * (bits .and .u64 y_2 (4294967295 : Int)))) + d5)) (4294967295 : Int)) + (IntKind.u64.wrap ((bits .and .u64 x_1 (4294967295 : Int)) * d4)))))) rfl rfl ?_
 obtain ⟨d7, hd7, h⟩ := h
 refine rv 46 rfl rfl rfl (q_shr (a := (IntKind.u64.wrap ((bits .and .u64 (IntKind.u64.wrap ((IntKind.u64.wrap (d3 * (bits .and .u64 y_2 (4294967295 : Int)))) + d5)) (4294967295 : Int)) + (IntKind.u64.wrap ((bits .and .u64 x_1 (4294967295 : Int)) * d4))))) (b := (32 : Int)) (r := d7) rfl rfl rfl hd7) <| rv 47 rfl rfl rfl (q_add (a := (IntKind.u64.wrap ((IntKind.u64.wrap (d3 * d4)) + d6))) (b := d7) rfl rfl rfl) <| za 4 (.int .u64 ((IntKind.u64.wrap ((IntKind.u64.wrap ((IntKind.u64.wrap (d3 * d4)) + d6)) + d7)))) rfl rfl <| ro_nil <| wp_seq <| wp_text [0, 1, 2, 3] rfl <| zm 48 (.int .u64 (x_1)) rfl rfl <| zm 49 (.int .u64 (y_2)) rfl rfl <| rv 50 rfl rfl rfl (q_mul (a := x_1) (b := y_2) rfl rfl rfl) <| za 5 (.int .u64 ((IntKind.u64.wrap (x_1 * y_2)))) rfl rfl <| ro_nil <| wp_ret ?_
 exact zr2 h rfl rfl
def F157 (n_1 : Int) (w : World) (R : Int → World → Prop) : Prop :=
 if (decide (n_1 < (0 : Int))) = true then (
  R (IntKind.u64.wrap (0 - (IntKind.u64.wrap n_1))) w
 ) else (
  R (IntKind.u64.wrap n_1) w
 )
theorem F157_ok {n_1 : Int} {w : World} {R : Int → World → Prop} (h : F157 n_1 w R) : cl Tryz.prog 157 [.int .i64 (n_1)] (tInt .u64) w R := by
 unfold F157 at h
 refine calls_start 10 Tryz.func157 rfl rfl (Nat.le_of_ble_eq_true rfl) <| wp_seq <| wp_text [0] rfl <| za 2 (.int .u64 ((0 : Int))) rfl rfl <| ro_nil <| wp_seq <| wp_seq <| wp_text [0, 1] rfl <| zm 3 (.int .i64 (n_1)) rfl rfl <| rv 4 rfl rfl rfl (q_lss (a := n_1) (b := (0 : Int)) rfl rfl rfl) <| ro_nil <| zi h rfl (fun _ h => ?_) fun _ h => ?_
 ·refine wp_seq <| wp_text [0, 1, 2, 3] rfl <| zm 5 (.int .i64 (n_1)) rfl rfl <| rv 6 rfl rfl rfl (q_cvtI (a := n_1) rfl Tryz.underlying2 Tryz.underlying61 rfl) <| rv 7 rfl rfl rfl (q_neg (a := (IntKind.u64.wrap n_1)) rfl rfl) <| za 2 (.int .u64 ((IntKind.u64.wrap (0 - (IntKind.u64.wrap n_1))))) rfl rfl <| ro_nil <| wp_ret ?_
  exact zr1 h rfl rfl
 ·refine wp_skip <| wp_seq <| wp_text [0, 1, 2] rfl <| zm 8 (.int .i64 (n_1)) rfl rfl <| rv 9 rfl rfl rfl (q_cvtI (a := n_1) rfl Tryz.underlying2 Tryz.underlying61 rfl) <| za 2 (.int .u64 ((IntKind.u64.wrap n_1))) rfl rfl <| ro_nil <| wp_ret ?_
  exact zr1 h rfl rfl
def F158 (neg_1 : Bool) (n_2 : Int) (w : World) (R : (Int × Int) → World → Prop) : Prop :=
 if (neg_1 && (decide (n_2 ≤ (9223372036854775808 : Int)))) = true then (
  R ((IntKind.i64.wrap (0 - (IntKind.i64.wrap n_2))), (0 : Int)) w
 ) else (
  if ((!neg_1) && (decide (n_2 < (9223372036854775808 : Int)))) = true then (
   R ((IntKind.i64.wrap n_2), (0 : Int)) w
  ) else (
   R ((0 : Int), (11 : Int)) w
  )
 )
theorem F158_ok {neg_1 : Bool} {n_2 : Int} {w : World} {R : (Int × Int) → World → Prop} (h : F158 neg_1 n_2 w R) : cl Tryz.prog 158 [.bool (neg_1), .int .u64 (n_2)] (tTup2 (tInt .i64) (tInt .i64)) w R := by
 unfold F158 at h
 refine calls_start 24 Tryz.func158 rfl rfl (Nat.le_of_ble_eq_true rfl) <| wp_seq <| wp_text [0, 1] rfl <| za 4 (.int .i64 ((0 : Int))) rfl rfl <| za 5 (.int .i64 ((0 : Int))) rfl rfl <| ro_nil <| wp_seq <| wp_block <| wp_seq <| wp_text [0, 1, 2, 3, 4, 5] rfl <| zm 7 (.bool (neg_1)) rfl rfl <| zm 8 (.bool (neg_1)) rfl rfl ?_
 refine ro_gval (g := neg_1) (d := (some 9)) rfl (.yes 1 8 true neg_1 rfl rfl rfl rfl) rfl (fun hg => q_move (v := .int .u64 (n_2)) rfl rfl) <| ro_gval (g := neg_1) (d := (some 10)) rfl (.yes 1 8 true neg_1 rfl rfl rfl rfl) rfl (fun hg => q_leq (k := .u64) (a := n_2) (b := (9223372036854775808 : Int)) rfl (gvb_yes hg) rfl) <| rv 11 rfl rfl rfl (q_pickGT (a := neg_1) (b := (decide (n_2 ≤ (9223372036854775808 : Int)))) rfl rfl rfl rfl) <| za 6 (.bool ((neg_1 && (decide (n_2 ≤ (9223372036854775808 : Int)))))) rfl rfl <| ro_nil <| zi h rfl (fun _ h => ?_) fun _ h => ?_
 ·refine wp_seq <| wp_text [0, 1, 2, 3, 4] rfl <| zm 12 (.int .u64 (n_2)) rfl rfl <| rv 13 rfl rfl rfl (q_cvtI (a := n_2) rfl Tryz.underlying61 Tryz.underlying2 rfl) <| rv 14 rfl rfl rfl (q_neg (a := (IntKind.i64.wrap n_2)) rfl rfl) <| za 4 (.int .i64 ((IntKind.i64.wrap (0 - (IntKind.i64.wrap n_2))))) rfl rfl <| za 5 (.int .i64 ((0 : Int))) rfl rfl <| ro_nil <| wp_ret ?_
  exact zr2 h rfl rfl
 ·refine wp_seq <| wp_text [0, 1, 2, 3, 4, 5, 6] rfl <| zm 16 (.bool (neg_1)) rfl rfl <| rv 17 rfl rfl rfl (q_not (b := neg_1) rfl rfl) <| zm 18 (.bool ((!neg_1))) rfl rfl <| ro_gval (g := (!neg_1)) (d := (some 19)) rfl (.yes 2 18 true (!neg_1) rfl rfl rfl rfl) rfl (fun hg => q_move (v := .int .u64 (n_2)) rfl rfl) <| ro_gval (g := (!neg_1)) (d := (some 20)) rfl (.yes 2 18 true (!neg_1) rfl rfl rfl rfl) rfl (fun hg => q_lss (k := .u64) (a := n_2) (b := (9223372036854775808 : Int)) rfl (gvb_yes hg) rfl) <| rv 21 rfl rfl rfl (q_pickGT (a := (!neg_1)) (b := (decide (n_2 < (9223372036854775808 : Int)))) rfl rfl rfl rfl) <| za 15 (.bool (((!neg_1) && (decide (n_2 < (9223372036854775808 : Int)))))) rfl rfl <| ro_nil <| zi h rfl (fun _ h => ?_) fun _ h => ?_
  ·refine wp_seq <| wp_text [0, 1, 2, 3] rfl <| zm 22 (.int .u64 (n_2)) rfl rfl <| rv 23 rfl rfl rfl (q_cvtI (a := n_2) rfl Tryz.underlying61 Tryz.underlying2 rfl) <| za 4 (.int .i64 ((IntKind.i64.wrap n_2))) rfl rfl <| za 5 (.int .i64 ((0 : Int))) rfl rfl <| ro_nil <| wp_ret ?_
   exact zr2 h rfl rfl
  ·refine wp_skip <| wp_seq <| wp_text [0, 1] rfl <| za 4 (.int .i64 ((0 : Int))) rfl rfl <| za 5 (.int .i64 ((11 : Int))) rfl rfl <| ro_nil <| wp_ret ?_
   exact zr2 h rfl rfl
def F159 (hi_1 : Int) (lo_2 : Int) (by_3 : Int) (w : World) (R : (Int × Bool × Bool) → World → Prop) : Prop :=
 if (decide (by_3 ≥ (128 : Int))) = true then (
  R ((0 : Int), true, true) w
 ) else (
  if (decide (by_3 > (64 : Int))) = true then (
   ex (Shift (IntKind.u64.wrap (by_3 - (64 : Int))) (Int.fdiv hi_1 (2 ^ (min ((IntKind.u64.wrap (by_3 - (64 : Int)))).toNat IntKind.u64.bits)))) fun d4 =>
   ex (Shift (IntKind.u64.wrap ((128 : Int) - by_3)) (IntKind.u64.wrap (hi_1 * 2 ^ (min ((IntKind.u64.wrap ((128 : Int) - by_3))).toNat IntKind.u64.bits)))) fun d5 =>
   R (d4, ((d5 != (0 : Int)) || (lo_2 != (0 : Int))), true) w
  ) else (
   if (by_3 == (64 : Int)) = true then (
    R (hi_1, (lo_2 != (0 : Int)), true) w
   ) else (
    ex (Shift by_3 (Int.fdiv lo_2 (2 ^ (min (by_3).toNat IntKind.u64.bits)))) fun d6 =>
    ex (Shift (IntKind.u64.wrap ((64 : Int) - by_3)) (IntKind.u64.wrap (hi_1 * 2 ^ (min ((IntKind.u64.wrap ((64 : Int) - by_3))).toNat IntKind.u64.bits)))) fun d7 =>
    ex (Shift (IntKind.u64.wrap ((64 : Int) - by_3)) (IntKind.u64.wrap (lo_2 * 2 ^ (min ((IntKind.u64.wrap ((64 : Int) - by_3))).toNat IntKind.u64.bits)))) fun d8 =>
    ex (Shift by_3 (Int.fdiv hi_1 (2 ^ (min (by_3).toNat IntKind.u64.bits)))) fun d9 =>
    R ((bits .or .u64 d6 d7), (d8 != (0 : Int)), (d9 == (0 : Int))) w
   )
  )
 )
theorem F159_ok {hi_1 : Int} {lo_2 : Int} {by_3 : Int} {w : World} {R : (Int × Bool × Bool) → World → Prop} (h : F159 hi_1 lo_2 by_3 w R) : cl Tryz.prog 159 [.int .u64 (hi_1), .int .u64 (lo_2), .int .u64 (by_3)] (tTup3 (tInt .u64) tBool tBool) w R := by
 unfold F159 at h
 refine calls_start 51 Tryz.func159 rfl rfl (Nat.le_of_ble_eq_true rfl) <| wp_seq <| wp_text [0, 1, 2] rfl <| za 6 (.int .u64 ((0 : Int))) rfl rfl <| za 7 (.bool (false)) rfl rfl <| za 8 (.bool (false)) rfl rfl <| ro_nil <| wp_seq <| wp_block <| wp_seq <| wp_text [0, 1, 2] rfl <| zm 10 (.int .u64 (by_3)) rfl rfl ?_
 refine rv 11 rfl rfl rfl (q_geq (a := by_3) (b := (128 : Int)) rfl rfl rfl) <| za 9 (.bool ((decide (by_3 ≥ (128 : Int))))) rfl rfl <| ro_nil <| zi h rfl (fun _ h => ?_) fun _ h => ?_
 ·refine wp_seq <| wp_text [0, 1, 2] rfl <| za 6 (.int .u64 ((0 : Int))) rfl rfl <| za 7 (.bool (true)) rfl rfl <| za 8 (.bool (true)) rfl rfl <| ro_nil <| wp_ret ?_
  exact zr3 h rfl rfl
 ·refine wp_seq <| wp_text [0, 1, 2] rfl <| zm 13 (.int .u64 (by_3)) rfl rfl <| rv 14 rfl rfl rfl (q_gtr (a := by_3) (b := (64 : Int)) rfl rfl rfl) <| za 12 (.bool ((decide (by_3 > (64 : Int))))) rfl rfl <| ro_nil <| zi h rfl (fun _ h => ?_) fun _ h => ?_
  ·refine wp_seq <| wp_text [0, 1, 2, 3, 4, 5, 6, 7, 8, 9, 10, 11, 12, 13, 14, 15] rfl <| zm 15 (.int .u64 (hi_1)) rfl rfl <| zm 16 (.int .u64 (by_3)) rfl rfl <| rv 17 rfl rfl rfl (q_sub (a := by_3) (b := (64 : Int)) rfl rfl rfl) ?_
   obtain ⟨d4, hd4, h⟩ := h
   refine rv 18 rfl rfl rfl (q_shr (a := hi_1) (b := (IntKind.u64.wrap (by_3 - (64 : Int)))) (r := d4) rfl rfl rfl hd4) <| zm 19 (.int .u64 (hi_1)) rfl rfl <| zm 20 (.int .u64 (by_3)) rfl rfl <| rv 21 rfl rfl rfl (q_sub (a := (128 : Int)) (b := by_3) rfl rfl rfl) ?_
   obtain ⟨d5, hd5, h⟩ := h
   refine rv 22 rfl rfl rfl (q_shl (a := hi_1) (b := (IntKind.u64.wrap ((128 : Int) - by_3))) (r := d5) rfl rfl rfl hd5) <| rv 23 rfl rfl rfl (q_neq (a := d5) (b := (0 : Int)) rfl rfl rfl) <| zm 24 (.bool ((d5 != (0 : Int)))) rfl rfl <| ro_gval (g := (!(d5 != (0 : Int)))) (d := (some 25)) rfl (.no 9 24 true (d5 != (0 : Int)) rfl rfl rfl rfl) rfl (fun hg => q_move (v := .int .u64 (lo_2)) rfl rfl) <| ro_gval (g := (!(d5 != (0 : Int)))) (d := (some 26)) rfl (.no 9 24 true (d5 != (0 : Int)) rfl rfl rfl rfl) rfl (fun hg => q_neq (k := .u64) (a := lo_2) (b := (0 : Int)) rfl (gvb_yes hg) rfl) <| rv 27 rfl rfl rfl (q_pickGF (a := (d5 != (0 : Int))) (c := (lo_2 != (0 : Int))) rfl rfl rfl rfl) <| za 6 (.int .u64 (d4)) rfl rfl <| za 7 (.bool (((d5 != (0 : Int)) || (lo_2 != (0 : Int))))) rfl rfl <| za 8 (.bool (true)) rfl rfl <| ro_nil <| wp_ret ?_
   exact zr3 h rfl rfl
  ·refine wp_seq <| wp_text [0, 1, 2] rfl <| zm 29 (.int .u64 (by_3)) rfl rfl <| rv 30 rfl rfl rfl (q_eql (a := by_3) (b := (64 : Int)) rfl rfl rfl) <| za 28 (.bool ((by_3 == (64 : Int)))) rfl rfl <| ro_nil <| zi h rfl (fun _ h => ?_) fun _ h => ?_
   ·refine wp_seq <| wp_text [0, 1, 2, 3, 4, 5] rfl <| zm 31 (.int .u64 (hi_1)) rfl rfl <| zm 32 (.int .u64 (lo_2)) rfl rfl <| rv 33 rfl rfl rfl (q_neq (a := lo_2) (b := (0 : Int)) rfl rfl rfl) <| za 6 (.int .u64 (hi_1)) rfl rfl <| za 7 (.bool ((lo_2 != (0 : Int)))) rfl rfl <| za 8 (.bool (true)) rfl rfl <| ro_nil <| wp_ret ?_
    exact zr3 h rfl rfl
   ·refine wp_skip <| wp_seq <| wp_text [0, 1, 2, 3, 4, 5, 6, 7, 8, 9, 10, 11, 12, 13, 14, 15, 16, 17, 18, 19] rfl <| zm 34 (.int .u64 (lo_2)) rfl rfl <| zm 35 (.int .u64 (by_3)) rfl rfl ?_
    obtain ⟨d6, hd6, h⟩ := h
    refine rv 36 rfl rfl rfl (q_shr (a := lo_2) (b := by_3) (r := d6) rfl rfl rfl hd6) <| zm 37 (.int .u64 (hi_1)) rfl rfl <| zm 38 (.int .u64 (by_3)) rfl rfl <| rv 39 rfl rfl rfl (q_sub (a := (64 : Int)) (b := by_3) rfl rfl rfl) ?_
    obtain ⟨d7, hd7, h⟩ := h
    refine rv 40 rfl rfl rfl (q_shl (a := hi_1) (b := (IntKind.u64.wrap ((64 : Int) - by_3))) (r := d7) rfl rfl rfl hd7) <| rv 41 rfl rfl rfl (q_or (a := d6) (b := d7) rfl rfl rfl) <| zm 42 (.int .u64 (lo_2)) rfl rfl <| zm 43 (.int .u64 (by_3)) rfl rfl <| rv 44 rfl rfl rfl (q_sub (a := (64 : Int)) (b := by_3) rfl rfl rfl) ?_
    obtain ⟨d8, hd8, h⟩ := h
    refine rv 45 rfl rfl rfl (q_shl (a := lo_2) (b := (IntKind.u64.wrap ((64 : Int) - by_3))) (r := d8) rfl rfl rfl hd8) <| rv 46 rfl rfl rfl (q_neq (a := d8) (b := (0 : Int)) rfl rfl rfl) <| zm 47 (.int .u64 (hi_1)) rfl rfl <| zm 48 (.int .u64 (by_3)) rfl rfl ?_
    obtain ⟨d9, hd9, h⟩ := h
    refine rv 49 rfl rfl rfl (q_shr (a := hi_1) (b := by_3) (r := d9) rfl rfl rfl hd9) <| rv 50 rfl rfl rfl (q_eql (a := d9) (b := (0 : Int)) rfl rfl rfl) <| za 6 (.int .u64 ((bits .or .u64 d6 d7))) rfl rfl <| za 7 (.bool ((d8 != (0 : Int)))) rfl rfl <| za 8 (.bool ((d9 == (0 : Int)))) rfl rfl <| ro_nil <| wp_ret ?_
    exact zr3 h rfl rfl
def F167_j1 (f_1 : Nat) (t_4 : Bool) (w5 : World) (R : (Nat × Int) → World → Prop) : Prop :=
 if t_4 = true then (
  R (f_1, (0 : Int)) w5
 ) else (
  cl Tryz.prog 172 [.float .f64 (f_1)] (tTup2 tFlt (tInt .i64)) w5 fun r7 w6 =>
  ex (Shift (52 : Int) (Int.fdiv (r7.1 : Int) (2 ^ (min ((52 : Int)).toNat IntKind.u64.bits)))) fun d8 =>
  R ((Int.toNat (bits .or .u64 (bits .andNot .u64 (r7.1 : Int) (9218868437227405312 : Int)) (4602678819172646912 : Int))), (IntKind.i64.wrap (r7.2 + (IntKind.i64.wrap ((IntKind.i64.wrap ((IntKind.i64.wrap (bits .and .u64 d8 (2047 : Int))) - (1023 : Int))) + (1 : Int)))))) w6
 )
def F167 (f_1 : Nat) (w : World) (R : (Nat × Int) → World → Prop) : Prop :=
 if (fcmp .eql f_1 (0 : Nat)) = true then (
  R (f_1, (0 : Int)) w
 ) else (
  cl Tryz.prog 105 [.float .f64 (f_1), .int .i64 ((0 : Int))] tBool w fun r3 w2 =>
  if r3 = true then (
   F167_j1 f_1 true w2 R
  ) else (
   cl Tryz.prog 171 [.float .f64 (f_1)] tBool w2 fun r12 w11 =>
   F167_j1 f_1 r12 w11 R
  )
 )
theorem F167_ok {f_1 : Nat} {w : World} {R : (Nat × Int) → World → Prop} (h : F167 f_1 w R) : cl Tryz.prog 167 [.float .f64 (f_1)] (tTup2 tFlt (tInt .i64)) w R := by
 unfold F167 at h
 refine calls_start 38 Tryz.func167 rfl rfl (Nat.le_of_ble_eq_true rfl) <| wp_seq <| wp_text [0, 1] rfl <| za 2 (.float .f64 ((0 : Nat))) rfl rfl <| za 3 (.int .i64 ((0 : Int))) rfl rfl <| ro_nil <| wp_seq <| wp_block <| wp_seq <| wp_text [0, 1, 2] rfl <| zm 6 (.float .f64 (f_1)) rfl rfl <| rv 7 rfl rfl rfl (q_fcmp (op := .eql) (a := f_1) (b := (0 : Nat)) rfl (by decide) rfl rfl) ?_
 refine za 5 (.bool ((fcmp .eql f_1 (0 : Nat)))) rfl rfl <| ro_nil <| zi h rfl (fun _ h => ?_) fun _ h => ?_
 ·refine wp_seq <| wp_text [0, 1, 2] rfl <| zm 8 (.float .f64 (f_1)) rfl rfl <| za 2 (.float .f64 (f_1)) rfl rfl <| za 3 (.int .i64 ((0 : Int))) rfl rfl <| ro_nil <| wp_ret ?_
  exact zr2 h rfl rfl
 ·refine wp_seq <| wp_text [0, 1, 2, 3, 4, 5, 6] rfl <| zm 10 (.float .f64 (f_1)) rfl rfl <| zc ent105 rfl rfl h fun r3 w2 h => zm 12 (.bool (r3)) rfl rfl <| ro_join (σ := Bool) (J := fun (s : Bool) w => F167_j1 f_1 s w R) (fr := fun g (s : Bool) => upd (upd (g) 0 (.float .f64 (f_1))) 15 (.bool (s))) [3, 4, 5] [6] ?_ ?_
  ·rintro t_4 g w5 h
   unfold F167_j1 at h
   refine za 9 (.bool (t_4)) rfl rfl <| ro_nil <| zi h rfl (fun _ h => ?_) fun _ h => ?_
   ·refine wp_seq <| wp_text [0, 1, 2] rfl <| zm 16 (.float .f64 (f_1)) rfl rfl <| za 2 (.float .f64 (f_1)) rfl rfl <| za 3 (.int .i64 ((0 : Int))) rfl rfl <| ro_nil <| wp_ret ?_
    exact zr2 h rfl rfl
   ·refine wp_skip <| wp_seq <| wp_text [0, 1, 2, 3, 4, 5, 6] rfl <| zm 18 (.float .f64 (f_1)) rfl rfl <| zc ent172 rfl rfl h fun r7 w6 h => zm 17 ((tTup2 tFlt (tInt .i64)).enc (r7)) rfl rfl <| ze 20 (.float .f64 (r7.1)) rfl rfl rfl <| ze 21 (.int .i64 (r7.2)) rfl rfl rfl <| za 0 (.float .f64 (r7.1)) rfl rfl <| za 3 (.int .i64 (r7.2)) rfl rfl <| ro_nil <| wp_seq ?_
    refine wp_text [0, 1, 2] rfl <| zm 22 (.float .f64 (r7.1)) rfl rfl <| rv 23 rfl rfl rfl (q_f64bits (b := r7.1) rfl ext102 rfl) <| za 4 (.int .u64 ((r7.1 : Int))) rfl rfl <| ro_nil <| wp_seq <| wp_text [0, 1, 2, 3, 4, 5, 6, 7, 8] rfl <| zm 24 (.int .i64 (r7.2)) rfl rfl <| zm 25 (.int .u64 ((r7.1 : Int))) rfl rfl ?_
    obtain ⟨d8, hd8, h⟩ := h
    refine rv 26 rfl rfl rfl (q_shr (a := (r7.1 : Int)) (b := (52 : Int)) (r := d8) rfl rfl rfl hd8) <| rv 27 rfl rfl rfl (q_and (a := d8) (b := (2047 : Int)) rfl rfl rfl) <| rv 28 rfl rfl rfl (q_cvtI (a := (bits .and .u64 d8 (2047 : Int))) rfl Tryz.underlying61 Tryz.underlying3 rfl) <| rv 29 rfl rfl rfl (q_sub (a := (IntKind.i64.wrap (bits .and .u64 d8 (2047 : Int)))) (b := (1023 : Int)) rfl rfl rfl) <| rv 30 rfl rfl rfl (q_add (a := (IntKind.i64.wrap ((IntKind.i64.wrap (bits .and .u64 d8 (2047 : Int))) - (1023 : Int)))) (b := (1 : Int)) rfl rfl rfl) <| rv 31 rfl rfl rfl (q_add (a := r7.2) (b := (IntKind.i64.wrap ((IntKind.i64.wrap ((IntKind.i64.wrap (bits .and .u64 d8 (2047 : Int))) - (1023 : Int))) + (1 : Int)))) rfl rfl rfl) <| za 3 (.int .i64 ((IntKind.i64.wrap (r7.2 + (IntKind.i64.wrap ((IntKind.i64.wrap ((IntKind.i64.wrap (bits .and .u64 d8 (2047 : Int))) - (1023 : Int))) + (1 : Int))))))) rfl rfl <| ro_nil <| wp_seq <| wp_text [0, 1, 2] rfl <| zm 32 (.int .u64 ((r7.1 : Int))) rfl rfl <| rv 33 rfl rfl rfl (q_andNot (a := (r7.1 : Int)) (b := (9218868437227405312 : Int)) rfl rfl rfl) ?_
    refine za 4 (.int .u64 ((bits .andNot .u64 (r7.1 : Int) (9218868437227405312 : Int)))) rfl rfl <| ro_nil <| wp_seq <| wp_text [0, 1, 2] rfl <| zm 34 (.int .u64 ((bits .andNot .u64 (r7.1 : Int) (9218868437227405312 : Int)))) rfl rfl <| rv 35 rfl rfl rfl (q_or (a := (bits .andNot .u64 (r7.1 : Int) (9218868437227405312 : Int))) (b := (4602678819172646912 : Int)) rfl rfl rfl) <| za 4 (.int .u64 ((bits .or .u64 (bits .andNot .u64 (r7.1 : Int) (9218868437227405312 : Int)) (4602678819172646912 : Int)))) rfl rfl <| ro_nil <| wp_seq <| wp_text [0, 1, 2] rfl <| zm 36 (.int .u64 ((bits .or .u64 (bits .andNot .u64 (r7.1 : Int) (9218868437227405312 : Int)) (4602678819172646912 : Int)))) rfl rfl <| rv 37 rfl rfl rfl (q_f64from (b := (bits .or .u64 (bits .andNot .u64 (r7.1 : Int) (9218868437227405312 : Int)) (4602678819172646912 : Int))) rfl ext99 rfl) ?_
    refine za 2 (.float .f64 ((Int.toNat (bits .or .u64 (bits .andNot .u64 (r7.1 : Int) (9218868437227405312 : Int)) (4602678819172646912 : Int))))) rfl rfl <| ro_nil <| wp_ret ?_
    exact zr2 h rfl rfl
  ·refine ro_if (b := r3) h (fun hb10 h => ?_) (fun hb10 h => ?_)
   ·refine ro_bar (d := (some 13)) rfl (.by_ 2 false 12 r3 rfl rfl rfl hb10) rfl <| ro_bar (d := (some 14)) rfl (.by_ 2 false 12 r3 rfl rfl rfl hb10) rfl <| rv 15 rfl rfl rfl (q_pickT (v := .bool (true)) (b := r3) rfl rfl hb10 rfl) <| ro_nil ?_
    exact ⟨(true), _, arr (upd_step (upd_step rfl rfl) rfl), h⟩
   ·refine ro_val (d := (some 13)) rfl (.by_ 2 false 12 r3 rfl rfl rfl hb10) rfl (q_move (v := .float .f64 (f_1)) rfl rfl) <| ro_wp rfl (.by_ 2 false 12 r3 rfl rfl rfl hb10) (wp_cl (d := (some 14)) rfl (q_call (k := 171) (l := [.float .f64 (f_1)]) rfl ent171 rfl) h ?_)
    intro r12 w11 h
    refine rv 15 rfl rfl rfl (q_pickF (v := .bool (r12)) (b := r3) rfl rfl hb10 rfl) <| ro_nil ?_
    exact ⟨(r12), _, arr (upd_step (upd_step rfl rfl) rfl), h⟩
end Go.Proofs.YtehclfjjjiiieaaGreat.Cf
namespace Go.Proofs.YtehclfjjjiiieaaGreat.Cf
open Go
set_option maxRecDepth 100000
set_option maxHeartbeats 1000000
set_option linter.unusedVariables false
set_option linter.unusedSimpArgs false
def F169_j2 (r8 : (Nat × Int)) (exp_17 : Int) (m_18 : Nat) (w19 : World) (R : Nat → World → Prop) : Prop :=
 ex (Shift (52 : Int) (IntKind.u64.wrap ((IntKind.u64.wrap (IntKind.i64.wrap (exp_17 + (1023 : Int)))) * 2 ^ (min ((52 : Int)).toNat IntKind.u64.bits)))) fun d20 =>
 ex (FArith .mul m_18 (Int.toNat (bits .or .u64 (bits .andNot .u64 (r8.1 : Int) (9218868437227405312 : Int)) d20))) fun z21 =>
 R z21 w19
def F169_j1 (frac_1 : Nat) (exp_2 : Int) (t_5 : Bool) (w6 : World) (R : Nat → World → Prop) : Prop :=
 if t_5 = true then (
  R frac_1 w6
 ) else (
  cl Tryz.prog 172 [.float .f64 (frac_1)] (tTup2 tFlt (tInt .i64)) w6 fun r8 w7 =>
  ex (Shift (52 : Int) (Int.fdiv (r8.1 : Int) (2 ^ (min ((52 : Int)).toNat IntKind.u64.bits)))) fun d9 =>
  if (decide ((IntKind.i64.wrap ((IntKind.i64.wrap (exp_2 + r8.2)) + (IntKind.i64.wrap ((bits .and .i64 (IntKind.i64.wrap d9) (2047 : Int)) - (1023 : Int))))) < (-1075 : Int))) = true then (
   cl Tryz.prog 173 [.float .f64 ((0 : Nat)), .float .f64 (r8.1)] tFlt w7 fun r11 w10 =>
   R r11 w10
  ) else (
   if (decide ((IntKind.i64.wrap ((IntKind.i64.wrap (exp_2 + r8.2)) + (IntKind.i64.wrap ((bits .and .i64 (IntKind.i64.wrap d9) (2047 : Int)) - (1023 : Int))))) > (1023 : Int))) = true then (
    if (fcmp .lss r8.1 (0 : Nat)) = true then (
     cl Tryz.prog 174 [.int .i64 ((-1 : Int))] tFlt w7 fun r13 w12 =>
     R r13 w12
    ) else (
     cl Tryz.prog 174 [.int .i64 ((1 : Int))] tFlt w7 fun r15 w14 =>
     R r15 w14
    )
   ) else (
    if (decide ((IntKind.i64.wrap ((IntKind.i64.wrap (exp_2 + r8.2)) + (IntKind.i64.wrap ((bits .and .i64 (IntKind.i64.wrap d9) (2047 : Int)) - (1023 : Int))))) < (-1022 : Int))) = true then (
     F169_j2 r8 (IntKind.i64.wrap ((IntKind.i64.wrap ((IntKind.i64.wrap (exp_2 + r8.2)) + (IntKind.i64.wrap ((bits .and .i64 (IntKind.i64.wrap d9) (2047 : Int)) - (1023 : Int))))) + (53 : Int))) (4368491638549381120 : Nat) w7 R
    ) else (
     F169_j2 r8 (IntKind.i64.wrap ((IntKind.i64.wrap (exp_2 + r8.2)) + (IntKind.i64.wrap ((bits .and .i64 (IntKind.i64.wrap d9) (2047 : Int)) - (1023 : Int))))) (4607182418800017408 : Nat) w7 R
    )
   )
  )
 )
def F169 (frac_1 : Nat) (exp_2 : Int) (w : World) (R : Nat → World → Prop) : Prop :=
 if (fcmp .eql frac_1 (0 : Nat)) = true then (
  R frac_1 w
 ) else (
  cl Tryz.prog 105 [.float .f64 (frac_1), .int .i64 ((0 : Int))] tBool w fun r4 w3 =>
  if r4 = true then (
   F169_j1 frac_1 exp_2 true w3 R
  ) else (
   cl Tryz.prog 171 [.float .f64 (frac_1)] tBool w3 fun r28 w27 =>
   F169_j1 frac_1 exp_2 r28 w27 R
  )
 )
theorem F169_ok {frac_1 : Nat} {exp_2 : Int} {w : World} {R : Nat → World → Prop} (h : F169 frac_1 exp_2 w R) : cl Tryz.prog 169 [.float .f64 (frac_1), .int .i64 (exp_2)] tFlt w R := by
 unfold F169 at h
 refine calls_start 63 Tryz.func169 rfl rfl (Nat.le_of_ble_eq_true rfl) <| wp_seq <| wp_text [0] rfl <| za 4 (.float .f64 ((0 : Nat))) rfl rfl <| ro_nil <| wp_seq <| wp_block <| wp_seq <| wp_text [0, 1, 2] rfl <| zm 9 (.float .f64 (frac_1)) rfl rfl <| rv 10 rfl rfl rfl (q_fcmp (op := .eql) (a := frac_1) (b := (0 : Nat)) rfl (by decide) rfl rfl) <| za 8 (.bool ((fcmp .eql frac_1 (0 : Nat)))) rfl rfl ?_
 refine ro_nil <| zi h rfl (fun _ h => ?_) fun _ h => ?_
 ·refine wp_seq <| wp_text [0, 1] rfl <| zm 11 (.float .f64 (frac_1)) rfl rfl <| za 4 (.float .f64 (frac_1)) rfl rfl <| ro_nil <| wp_ret ?_
  exact zr1 h rfl rfl
 ·refine wp_seq <| wp_text [0, 1, 2, 3, 4, 5, 6] rfl <| zm 13 (.float .f64 (frac_1)) rfl rfl <| zc ent105 rfl rfl h fun r4 w3 h => zm 15 (.bool (r4)) rfl rfl <| ro_join (σ := Bool) (J := fun (s : Bool) w => F169_j1 frac_1 exp_2 s w R) (fr := fun g (s : Bool) => upd (upd (upd (g) 0 (.float .f64 (frac_1))) 1 (.int .i64 (exp_2))) 18 (.bool (s))) [3, 4, 5] [6] ?_ ?_
  ·rintro t_5 g w6 h
   unfold F169_j1 at h
   refine za 12 (.bool (t_5)) rfl rfl <| ro_nil <| zi h rfl (fun _ h => ?_) fun _ h => ?_
   ·refine wp_seq <| wp_text [0, 1] rfl <| zm 19 (.float .f64 (frac_1)) rfl rfl <| za 4 (.float .f64 (frac_1)) rfl rfl <| ro_nil <| wp_ret ?_
    exact zr1 h rfl rfl
   ·refine wp_skip <| wp_seq <| wp_text [0, 1, 2, 3, 4, 5, 6] rfl <| zm 21 (.float .f64 (frac_1)) rfl rfl <| zc ent172 rfl rfl h fun r8 w7 h => zm 20 ((tTup2 tFlt (tInt .i64)).enc (r8)) rfl rfl <| ze 23 (.float .f64 (r8.1)) rfl rfl rfl <| ze 24 (.int .i64 (r8.2)) rfl rfl rfl <| za 0 (.float .f64 (r8.1)) rfl rfl <| za 5 (.int .i64 (r8.2)) rfl rfl <| ro_nil <| wp_seq ?_
    refine wp_text [0, 1, 2, 3] rfl <| zm 25 (.int .i64 (exp_2)) rfl rfl <| zm 26 (.int .i64 (r8.2)) rfl rfl <| rv 27 rfl rfl rfl (q_add (a := exp_2) (b := r8.2) rfl rfl rfl) <| za 1 (.int .i64 ((IntKind.i64.wrap (exp_2 + r8.2)))) rfl rfl <| ro_nil <| wp_seq <| wp_text [0, 1, 2] rfl <| zm 28 (.float .f64 (r8.1)) rfl rfl <| rv 29 rfl rfl rfl (q_f64bits (b := r8.1) rfl ext102 rfl) <| za 6 (.int .u64 ((r8.1 : Int))) rfl rfl <| ro_nil ?_
    refine wp_seq <| wp_text [0, 1, 2, 3, 4, 5, 6, 7] rfl <| zm 30 (.int .i64 ((IntKind.i64.wrap (exp_2 + r8.2)))) rfl rfl <| zm 31 (.int .u64 ((r8.1 : Int))) rfl rfl ?_
    obtain ⟨d9, hd9, h⟩ := h
    refine rv 32 rfl rfl rfl (q_shr (a := (r8.1 : Int)) (b := (52 : Int)) (r := d9) rfl rfl rfl hd9) <| rv 33 rfl rfl rfl (q_cvtI (a := d9) rfl Tryz.underlying61 Tryz.underlying3 rfl) <| rv 34 rfl rfl rfl (q_and (a := (IntKind.i64.wrap d9)) (b := (2047 : Int)) rfl rfl rfl) <| rv 35 rfl rfl rfl (q_sub (a := (bits .and .i64 (IntKind.i64.wrap d9) (2047 : Int))) (b := (1023 : Int)) rfl rfl rfl) <| rv 36 rfl rfl rfl (q_add (a := (IntKind.i64.wrap (exp_2 + r8.2))) (b := (IntKind.i64.wrap ((bits .and .i64 (IntKind.i64.wrap d9) (2047 : Int)) - (1023 : Int)))) rfl rfl rfl) <| za 1 (.int .i64 ((IntKind.i64.wrap ((IntKind.i64.wrap (exp_2 + r8.2)) + (IntKind.i64.wrap ((bits .and .i64 (IntKind.i64.wrap d9) (2047 : Int)) - (1023 : Int))))))) rfl rfl <| ro_nil <| wp_seq <| wp_seq <| wp_text [0, 1] rfl <| zm 37 (.int .i64 ((IntKind.i64.wrap ((IntKind.i64.wrap (exp_2 + r8.2)) + (IntKind.i64.wrap ((bits .and .i64 (IntKind.i64.wrap d9) (2047 : Int)) - (1023 : Int))))))) rfl rfl <| rv 38 rfl rfl rfl (q_lss (a := (IntKind.i64.wrap ((IntKind.i64.wrap (exp_2 + r8.2)) + (IntKind.i64.wrap ((bits .and .i64 (IntKind.i64.wrap d9) (2047 : Int)) - (1023 : Int)))))) (b := (-1075 : Int)) rfl rfl rfl) ?_
    refine ro_nil <| zi h rfl (fun _ h => ?_) fun _ h => ?_
    ·refine wp_seq <| wp_text [0, 1, 2] rfl <| zm 39 (.float .f64 (r8.1)) rfl rfl <| zc ent173 rfl rfl h fun r11 w10 h => za 4 (.float .f64 (r11)) rfl rfl <| ro_nil <| wp_ret ?_
     exact zr1 h rfl rfl
    ·refine wp_skip <| wp_seq <| wp_seq <| wp_text [0, 1] rfl <| zm 41 (.int .i64 ((IntKind.i64.wrap ((IntKind.i64.wrap (exp_2 + r8.2)) + (IntKind.i64.wrap ((bits .and .i64 (IntKind.i64.wrap d9) (2047 : Int)) - (1023 : Int))))))) rfl rfl <| rv 42 rfl rfl rfl (q_gtr (a := (IntKind.i64.wrap ((IntKind.i64.wrap (exp_2 + r8.2)) + (IntKind.i64.wrap ((bits .and .i64 (IntKind.i64.wrap d9) (2047 : Int)) - (1023 : Int)))))) (b := (1023 : Int)) rfl rfl rfl) <| ro_nil <| zi h rfl (fun _ h => ?_) fun _ h => ?_
     ·refine wp_seq <| wp_seq <| wp_text [0, 1] rfl <| zm 43 (.float .f64 (r8.1)) rfl rfl <| rv 44 rfl rfl rfl (q_fcmp (op := .lss) (a := r8.1) (b := (0 : Nat)) rfl (by decide) rfl rfl) <| ro_nil <| zi h rfl (fun _ h => ?_) fun _ h => ?_
      ·refine wp_seq <| wp_text [0, 1] rfl <| zc ent174 rfl rfl h fun r13 w12 h => za 4 (.float .f64 (r13)) rfl rfl <| ro_nil <| wp_ret ?_
       exact zr1 h rfl rfl
      ·refine wp_skip <| wp_seq <| wp_text [0, 1] rfl <| zc ent174 rfl rfl h fun r15 w14 h => za 4 (.float .f64 (r15)) rfl rfl <| ro_nil <| wp_ret ?_
       exact zr1 h rfl rfl
     ·refine wp_skip <| wp_seq <| wp_text [0] rfl <| za 7 (.float .f64 ((4607182418800017408 : Nat))) rfl rfl <| ro_nil <| seq_join (σ := Int × Nat) (J := fun (s : Int × Nat) w => F169_j2 r8 s.1 s.2 w R) (fr := fun g (s : Int × Nat) => upd (upd (upd (g) 6 (.int .u64 ((r8.1 : Int)))) 1 (.int .i64 (s.1))) 7 (.float .f64 (s.2))) ?_ ?_
      ·rintro ⟨exp_17, m_18⟩ g w19 h
       unfold F169_j2 at h
       refine wp_seq <| wp_text [0, 1, 2] rfl <| zm 51 (.int .u64 ((r8.1 : Int))) rfl rfl <| rv 52 rfl rfl rfl (q_andNot (a := (r8.1 : Int)) (b := (9218868437227405312 : Int)) rfl rfl rfl) <| za 6 (.int .u64 ((bits .andNot .u64 (r8.1 : Int) (9218868437227405312 : Int)))) rfl rfl <| ro_nil <| wp_seq <| wp_text [0, 1, 2, 3, 4, 5, 6] rfl <| zm 53 (.int .u64 ((bits .andNot .u64 (r8.1 : Int) (9218868437227405312 : Int)))) rfl rfl <| zm 54 (.int .i64 (exp_17)) rfl rfl <| rv 55 rfl rfl rfl (q_add (a := exp_17) (b := (1023 : Int)) rfl rfl rfl) <| rv 56 rfl rfl rfl (q_cvtI (a := (IntKind.i64.wrap (exp_17 + (1023 : Int)))) rfl Tryz.underlying3 Tryz.underlying61 rfl) ?_
       obtain ⟨d20, hd20, h⟩ := h
       refine rv 57 rfl rfl rfl (q_shl (a := (IntKind.u64.wrap (IntKind.i64.wrap (exp_17 + (1023 : Int))))) (b := (52 : Int)) (r := d20) rfl rfl rfl hd20) <| rv 58 rfl rfl rfl (q_or (a := (bits .andNot .u64 (r8.1 : Int) (9218868437227405312 : Int))) (b := d20) rfl rfl rfl) <| za 6 (.int .u64 ((bits .or .u64 (bits .andNot .u64 (r8.1 : Int) (9218868437227405312 : Int)) d20))) rfl rfl <| ro_nil <| wp_seq <| wp_text [0, 1, 2, 3, 4] rfl <| zm 59 (.float .f64 (m_18)) rfl rfl <| zm 60 (.int .u64 ((bits .or .u64 (bits .andNot .u64 (r8.1 : Int) (9218868437227405312 : Int)) d20))) rfl rfl <| rv 61 rfl rfl rfl (q_f64from (b := (bits .or .u64 (bits .andNot .u64 (r8.1 : Int) (9218868437227405312 : Int)) d20)) rfl ext99 rfl) ?_
       obtain ⟨z21, hz21, h⟩ := h
       refine rv 62 rfl rfl rfl (q_farith (op := .mul) (a := m_18) (b := (Int.toNat (bits .or .u64 (bits .andNot .u64 (r8.1 : Int) (9218868437227405312 : Int)) d20))) (r := z21) rfl rfl rfl rfl hz21) <| za 4 (.float .f64 (z21)) rfl rfl <| ro_nil <| wp_ret ?_
       exact zr1 h rfl rfl
      ·refine wp_seq <| wp_text [0, 1] rfl <| zm 47 (.int .i64 ((IntKind.i64.wrap ((IntKind.i64.wrap (exp_2 + r8.2)) + (IntKind.i64.wrap ((bits .and .i64 (IntKind.i64.wrap d9) (2047 : Int)) - (1023 : Int))))))) rfl rfl <| rv 48 rfl rfl rfl (q_lss (a := (IntKind.i64.wrap ((IntKind.i64.wrap (exp_2 + r8.2)) + (IntKind.i64.wrap ((bits .and .i64 (IntKind.i64.wrap d9) (2047 : Int)) - (1023 : Int)))))) (b := (-1022 : Int)) rfl rfl rfl) <| ro_nil <| zi h rfl (fun _ h => ?_) fun _ h => ?_
       ·refine wp_seq <| wp_text [0, 1, 2] rfl <| zm 49 (.int .i64 ((IntKind.i64.wrap ((IntKind.i64.wrap (exp_2 + r8.2)) + (IntKind.i64.wrap ((bits .and .i64 (IntKind.i64.wrap d9) (2047 : Int)) - (1023 : Int))))))) rfl rfl <| rv 50 rfl rfl rfl (q_add (a := (IntKind.i64.wrap ((IntKind.i64.wrap (exp_2 + r8.2)) + (IntKind.i64.wrap ((bits .and .i64 (IntKind.i64.wrap d9) (2047 : Int)) - (1023 : Int)))))) (b := (53 : Int)) rfl rfl rfl) <| za 1 (.int .i64 ((IntKind.i64.wrap ((IntKind.i64.wrap ((IntKind.i64.wrap (exp_2 + r8.2)) + (IntKind.i64.wrap ((bits .and .i64 (IntKind.i64.wrap d9) (2047 : Int)) - (1023 : Int))))) + (53 : Int))))) rfl rfl <| ro_nil <| wp_text [0] rfl <| za 7 (.float .f64 ((4368491638549381120 : Nat))) rfl rfl <| ro_nil ?_
        exact ⟨((IntKind.i64.wrap ((IntKind.i64.wrap ((IntKind.i64.wrap (exp_2 + r8.2)) + (IntKind.i64.wrap ((bits .and .i64 (IntKind.i64.wrap d9) (2047 : Int)) - (1023 : Int))))) + (53 : Int))), (4368491638549381120 : Nat)), _, arr (upd_step (upd_step (upd_step rfl rfl) rfl) rfl), h⟩
       ·refine wp_skip ?_
        exact ⟨((IntKind.i64.wrap ((IntKind.i64.wrap (exp_2 + r8.2)) + (IntKind.i64.wrap ((bits .and .i64 (IntKind.i64.wrap d9) (2047 : Int)) - (1023 : Int))))), (4607182418800017408 : Nat)), _, arr (upd_step (upd_step (upd_step rfl rfl) rfl) rfl), h⟩
  ·refine ro_if (b := r4) h (fun hb26 h => ?_) (fun hb26 h => ?_)
   ·refine ro_bar (d := (some 16)) rfl (.by_ 2 false 15 r4 rfl rfl rfl hb26) rfl <| ro_bar (d := (some 17)) rfl (.by_ 2 false 15 r4 rfl rfl rfl hb26) rfl <| rv 18 rfl rfl rfl (q_pickT (v := .bool (true)) (b := r4) rfl rfl hb26 rfl) <| ro_nil ?_
    exact ⟨(true), _, arr (upd_step (upd_step (upd_step rfl rfl) rfl) rfl), h⟩
   ·refine ro_val (d := (some 16)) rfl (.by_ 2 false 15 r4 rfl rfl rfl hb26) rfl (q_move (v := .float .f64 (frac_1)) rfl rfl) <| ro_wp rfl (.by_ 2 false 15 r4 rfl rfl rfl hb26) (wp_cl (d := (some 17)) rfl (q_call (k := 171) (l := [.float .f64 (frac_1)]) rfl ent171 rfl) h ?_)
    intro r28 w27 h
    refine rv 18 rfl rfl rfl (q_pickF (v := .bool (r28)) (b := r4) rfl rfl hb26 rfl) <| ro_nil ?_
    exact ⟨(r28), _, arr (upd_step (upd_step (upd_step rfl rfl) rfl) rfl), h⟩
def F171 (f_1 : Nat) (w : World) (R : Bool → World → Prop) : Prop :=
 R (fcmp .neq f_1 f_1) w
theorem F171_ok {f_1 : Nat} {w : World} {R : Bool → World → Prop} (h : F171 f_1 w R) : cl Tryz.prog 171 [.float .f64 (f_1)] tBool w R := by
 unfold F171 at h
 refine calls_start 6 Tryz.func171 rfl rfl (Nat.le_of_ble_eq_true rfl) <| wp_seq <| wp_text [0] rfl <| za 2 (.bool (false)) rfl rfl <| ro_nil <| wp_seq <| wp_text [0, 1, 2, 3] rfl <| zm 3 (.float .f64 (f_1)) rfl rfl <| zm 4 (.float .f64 (f_1)) rfl rfl <| rv 5 rfl rfl rfl (q_fcmp (op := .neq) (a := f_1) (b := f_1) rfl (by decide) rfl rfl) <| za 2 (.bool ((fcmp .neq f_1 f_1))) rfl rfl <| ro_nil ?_
 refine wp_ret ?_
 exact zr1 h rfl rfl
def F172 (x_1 : Nat) (w : World) (R : (Nat × Int) → World → Prop) : Prop :=
 cl Tryz.prog 130 [.float .f64 (x_1)] tFlt w fun r3 w2 =>
 if (fcmp .lss r3 (4503599627370496 : Nat)) = true then (
  ex (FArith .mul x_1 (4841369599423283200 : Nat)) fun z4 =>
  R (z4, (-52 : Int)) w2
 ) else (
  R (x_1, (0 : Int)) w2
 )
theorem F172_ok {x_1 : Nat} {w : World} {R : (Nat × Int) → World → Prop} (h : F172 x_1 w R) : cl Tryz.prog 172 [.float .f64 (x_1)] (tTup2 tFlt (tInt .i64)) w R := by
 unfold F172 at h
 refine calls_start 10 Tryz.func172 rfl rfl (Nat.le_of_ble_eq_true rfl) <| wp_seq <| wp_text [0, 1] rfl <| za 2 (.float .f64 ((0 : Nat))) rfl rfl <| za 3 (.int .i64 ((0 : Int))) rfl rfl <| ro_nil <| wp_seq <| wp_seq <| wp_text [0, 1, 2] rfl <| zm 4 (.float .f64 (x_1)) rfl rfl <| zc ent130 rfl rfl h fun r3 w2 h => rv 6 rfl rfl rfl (q_fcmp (op := .lss) (a := r3) (b := (4503599627370496 : Nat)) rfl (by decide) rfl rfl) ?_
 refine ro_nil <| zi h rfl (fun _ h => ?_) fun _ h => ?_
 ·refine wp_seq <| wp_text [0, 1, 2, 3] rfl <| zm 7 (.float .f64 (x_1)) rfl rfl ?_
  obtain ⟨z4, hz4, h⟩ := h
  refine rv 8 rfl rfl rfl (q_farith (op := .mul) (a := x_1) (b := (4841369599423283200 : Nat)) (r := z4) rfl rfl rfl rfl hz4) <| za 2 (.float .f64 (z4)) rfl rfl <| za 3 (.int .i64 ((-52 : Int))) rfl rfl <| ro_nil <| wp_ret ?_
  exact zr2 h rfl rfl
 ·refine wp_skip <| wp_seq <| wp_text [0, 1, 2] rfl <| zm 9 (.float .f64 (x_1)) rfl rfl <| za 2 (.float .f64 (x_1)) rfl rfl <| za 3 (.int .i64 ((0 : Int))) rfl rfl <| ro_nil <| wp_ret ?_
  exact zr2 h rfl rfl
end Go.Proofs.YtehclfjjjiiieaaGreat.Cf
namespace Go.Proofs.YtehclfjjjiiieaaGreat.Cf
set_option linter.unusedSimpArgs false
set_option linter.unusedVariables false
open Go
abbrev PMap := Nat → Option Obj
def PMap.le (a b : PMap) : Prop := ∀ k o, a k = some o → b k = some o
def PMap.off (a b : PMap) : Prop := ∀ k, a k = none ∨ b k = none
structure Assn where
 p : PMap → PMap → Prop
 mono : ∀ {I I' h h' : PMap}, PMap.le I I' → PMap.le h h' → p I h → p I' h'
theorem PMap.le_refl (a : PMap) : PMap.le a a := fun _ _ h => h
theorem PMap.le_trans {a b c : PMap} (h : PMap.le a b) (k : PMap.le b c) : PMap.le a c := fun x o hx => k x o (h x o hx)
theorem PMap.off_le {a b c : PMap} (h : PMap.off a b) (k : PMap.le c b) : PMap.off a c := fun x => by
 cases hc : c x with
 | none => exact .inr rfl
 | some o => exact .inl ((h x).resolve_right (by rw [k x o hc]; simp))
theorem PMap.off_symm {a b : PMap} (h : PMap.off a b) : PMap.off b a := fun x => (h x).symm
def Seps : List Assn → PMap → PMap → Prop
 | [], _, _ => True
 | A :: l, I, h => ∃ h1 h2, PMap.off h1 h2 ∧ PMap.le h1 h ∧ PMap.le h2 h ∧ A.p I h1 ∧ Seps l I h2
theorem Seps.mono : ∀ {l : List Assn} {I I' h h' : PMap}, PMap.le I I' → PMap.le h h' → Seps l I h → Seps l I' h'
 | [], _, _, _, _, _, _, _ => trivial
 | _ :: _, _, _, _, _, hI, hh, ⟨h1, h2, ho, l1, l2, ha, hl⟩ => ⟨h1, h2, ho, (PMap.le_trans l1 hh), (PMap.le_trans l2 hh), Assn.mono _ hI (PMap.le_refl _) ha, Seps.mono hI (PMap.le_refl _) hl⟩
def sepA (l : List Assn) : Assn := ⟨Seps l, Seps.mono⟩
def exA {α : Type} (f : α → Assn) : Assn := ⟨fun I h => ∃ x, (f x).p I h, fun hI hh ⟨x, hx⟩ => ⟨x, (f x).mono hI hh hx⟩⟩
def puA (φ : Prop) : Assn := ⟨fun _ _ => φ, fun _ _ h => h⟩
def blk (b : Nat) (o : Obj) : Assn := ⟨fun _ h => h b = some o, fun _ hh h => hh b o h⟩
def cel (b : Nat) (cs : List Value) (t : TypeId) : Assn := blk b (.cells cs.toArray t)
def ever (φ : PMap → Prop) (m : ∀ {I I' : PMap}, PMap.le I I' → φ I → φ I') : Assn := ⟨fun I _ => φ I, fun hI _ h => m hI h⟩
structure St (W : World) (l : List Assn) (w : World) : Prop where
 os : w.os = W.os
 tape : w.tape = W.tape
 output : w.output = W.output
 size : W.heap.size ≤ w.heap.size
 mem : ∃ I h : PMap, PMap.off I h ∧ (∀ b o, I b = some o → w.heap[b]? = some o) ∧ (∀ b o, h b = some o → w.heap[b]? = some o) ∧ Seps l I h
section
variable {W w w' : World} {l l' : List Assn} {A B : Assn}
theorem St.same (H : St W l w) (ho : w'.os = w.os) (ht : w'.tape = w.tape) (hu : w'.output = w.output) (hh : w'.heap = w.heap) : St W l w' :=
 ⟨ho.trans H.os, ht.trans H.tape, hu.trans H.output, hh ▸ H.size, by rw [hh]; exact H.mem⟩
theorem St.drew (H : St W l w) : St W l w.drew := H.same rfl rfl rfl rfl
theorem St.imp (H : St W l w) (h : ∀ I h, Seps l I h → Seps l' I h) : St W l' w :=
 ⟨H.os, H.tape, H.output, H.size, let ⟨I, k, a, b, c, d⟩ := H.mem; ⟨I, k, a, b, c, h I k d⟩⟩
theorem Seps.swap {I h : PMap} (H : Seps (A :: B :: l) I h) : Seps (B :: A :: l) I h := by
 obtain ⟨h1, h2, ho, l1, l2, ha, h3, h4, ho', l3, l4, hb, hl⟩ := H
 refine ⟨h3, fun x => if (h3 x).isSome then none else h x, ?_, (PMap.le_trans l3 l2), ?_, hb, h1, h4, ?_, ?_, ?_, ha, hl⟩
 ·intro x
  cases h : h3 x <;> simp [h]
 ·intro x o hx
  by_cases e : (h3 x).isSome <;> simp [e] at hx; exact hx
 ·exact PMap.off_le ho l4
 ·intro x o hx
  have : h3 x = none := by
   rcases ho x with h | h
   ·rw [h] at hx; cases hx
   ·cases h3x : h3 x with
    | none => rfl
    | some u => rw [l3 x u h3x] at h; cases h
  simp [this, l1 x o hx]
 ·intro x o hx
  have : h3 x = none := (ho' x).resolve_right (by rw [hx]; simp)
  simp [this, l2 x o (l4 x o hx)]
theorem Seps.tail {I h : PMap} (g : ∀ I h, Seps l I h → Seps l' I h) (H : Seps (A :: l) I h) : Seps (A :: l') I h := by
 obtain ⟨h1, h2, ho, l1, l2, ha, hl⟩ := H
 exact ⟨h1, h2, ho, l1, l2, ha, g _ _ hl⟩
theorem Seps.perm (hp : l.Perm l') : ∀ {I h : PMap}, Seps l I h → Seps l' I h := by
 induction hp with
 | nil => exact fun h => h
 | cons x _ ih => exact fun h => Seps.tail (fun _ _ h => ih h) h
 | swap x y _ => exact fun h => Seps.swap h
 | trans _ _ i1 i2 => exact fun h => i2 (i1 h)
theorem St.perm (H : St W l w) (hp : l.Perm l') : St W l' w := H.imp fun _ _ h => h.perm hp
def front (i : Nat) (l : List Assn) : List Assn := match l, i with
 | [], _ => []
 | A :: l, 0 => A :: l
 | A :: l, i + 1 => match front i l with
  | [] => [A]
  | B :: r => B :: A :: r
theorem front_perm : ∀ (i : Nat) (l : List Assn), l.Perm (front i l)
 | _, [] => by simp [front]
 | 0, _ :: _ => .refl _
 | i + 1, A :: l => by
  have ih := front_perm i l
  simp only [front]
  cases hf : front i l with
  | nil => rw [hf] at ih; rw [List.Perm.eq_nil ih]
  | cons B r => rw [hf] at ih; exact (ih.cons A).trans (.swap B A r)
theorem St.front (i : Nat) (H : St W l w) : St W (front i l) w := H.perm (front_perm i l)
def ord : List Nat → List Assn → List Assn
 | [], l => l
 | i :: is, l => _root_.Go.Proofs.YtehclfjjjiiieaaGreat.Cf.front (i + (is.filter fun j => Nat.blt i j).length) (ord is l)
theorem St.ord : ∀ (is : List Nat), St W l w → St W (Cf.ord is l) w
 | [], H => H
 | i :: is, H => (St.ord is H).front _
theorem St.drop (H : St W (A :: l) w) : St W l w := H.imp fun _ _ ⟨_, _, _, _, l2, _, hl⟩ => Seps.mono (PMap.le_refl _) l2 hl
theorem St.ex {α : Type} {f : α → Assn} (H : St W (exA f :: l) w) : ∃ x, St W (f x :: l) w := by
 obtain ⟨I, h, a, b, c, h1, h2, ho, l1, l2, ⟨x, hx⟩, hl⟩ := H.mem
 exact ⟨x, H.os, H.tape, H.output, H.size, I, h, a, b, c, h1, h2, ho, l1, l2, hx, hl⟩
theorem St.toEx {α : Type} {f : α → Assn} (x : α) (H : St W (f x :: l) w) : St W (exA f :: l) w :=
 H.imp fun _ _ ⟨h1, h2, ho, l1, l2, ha, hl⟩ => ⟨h1, h2, ho, l1, l2, ⟨x, ha⟩, hl⟩
theorem St.pu {φ : Prop} (H : St W (puA φ :: l) w) : φ ∧ St W l w := by
 refine ⟨?_, H.drop⟩
 obtain ⟨I, h, a, b, c, h1, h2, ho, l1, l2, hx, hl⟩ := H.mem
 exact hx
theorem St.toPu {φ : Prop} (hφ : φ) (H : St W l w) : St W (puA φ :: l) w :=
 H.imp fun _ h hl => ⟨fun _ => none, h, fun _ => .inl rfl, fun _ _ h => (by cases h), PMap.le_refl _, hφ, hl⟩
theorem Seps.append {l' : List Assn} {I h : PMap} : ∀ {l : List Assn}, Seps (l ++ l') I h ↔ Seps (sepA l :: l') I h
 | [] => ⟨fun H => ⟨fun _ => none, h, fun _ => .inl rfl, fun _ _ h => (by cases h), PMap.le_refl _, trivial, H⟩, fun ⟨_, _, _, _, l2, _, hl⟩ => Seps.mono (PMap.le_refl _) l2 hl⟩
 | A :: l => by
  constructor
  ·rintro ⟨h1, h2, ho, l1, l2, ha, hl⟩
   obtain ⟨h3, h4, ho', l3, l4, hs, hl'⟩ := Seps.append.1 hl
   refine ⟨fun x => (h1 x).or (h3 x), h4, ?_, ?_, (PMap.le_trans l4 l2), ⟨h1, h3, PMap.off_le ho l3, ?_, ?_, ha, hs⟩, hl'⟩
   ·intro x
    rcases ho' x with h | h
    ·rcases PMap.off_le ho l4 x with k | k
     ·left; simp [h, k]
     ·exact .inr k
    ·exact .inr h
   ·intro x o hx
    cases e : h1 x with
    | some u => simp [e] at hx; subst hx; exact l1 x u e
    | none => simp [e] at hx; exact l2 x o (l3 x o hx)
   ·intro x o hx; simp [hx]
   ·intro x o hx
    have : h1 x = none := (PMap.off_le ho l3 x).resolve_right (by rw [hx]; simp)
    simp [this, hx]
  ·rintro ⟨h12, h4, ho, l12, l4, ⟨h1, h3, ho', l1, l3, ha, hs⟩, hl'⟩
   refine ⟨h1, fun x => if (h1 x).isSome then none else h x, ?_, (PMap.le_trans l1 l12), ?_, ha, ?_⟩
   ·intro x; cases e : h1 x <;> simp [e]
   ·intro x o hx
    by_cases e : (h1 x).isSome <;> simp [e] at hx; exact hx
   ·refine Seps.append.2 ⟨h3, h4, PMap.off_le (PMap.off_symm (PMap.off_le (PMap.off_symm ho) l3)) (PMap.le_refl _), ?_, ?_, hs, hl'⟩
    ·intro x o hx
     have : h1 x = none := (ho' x).resolve_right (by rw [hx]; simp)
     simp [this, l12 x o (l3 x o hx)]
    ·intro x o hx
     have : h1 x = none := by
      rcases ho x with k | k
      ·cases e : h1 x with
       | none => rfl
       | some u => rw [l1 x u e] at k; cases k
      ·rw [k] at hx; cases hx
     simp [this, l4 x o hx]
theorem St.open_ {l' : List Assn} (H : St W (sepA l' :: l) w) : St W (l' ++ l) w := H.imp fun _ _ h => Seps.append.2 h
theorem St.shut {l' : List Assn} (H : St W (l' ++ l) w) : St W (sepA l' :: l) w := H.imp fun _ _ h => Seps.append.1 h
theorem St.dup {φ : PMap → Prop} {m : ∀ {I I' : PMap}, PMap.le I I' → φ I → φ I'} (H : St W (ever φ m :: l) w) : St W (ever φ m :: ever φ m :: l) w :=
 H.imp fun _ h ⟨h1, h2, ho, l1, l2, ha, hl⟩ => ⟨fun _ => none, h, fun _ => .inl rfl, fun _ _ h => (by cases h), PMap.le_refl _, ha, h1, h2, ho, l1, l2, ha, hl⟩
theorem St.everI {φ : PMap → Prop} {m : ∀ {I I' : PMap}, PMap.le I I' → φ I → φ I'} (H : St W (ever φ m :: l) w) : ∃ I : PMap, (∀ b o, I b = some o → w.heap[b]? = some o) ∧ φ I := by
 obtain ⟨I, h, a, b, c, h1, h2, ho, l1, l2, hx, hl⟩ := H.mem
 exact ⟨I, b, hx⟩
theorem St.impEver {φ ψ : PMap → Prop} {m : ∀ {I I' : PMap}, PMap.le I I' → φ I → φ I'} {m' : ∀ {I I' : PMap}, PMap.le I I' → ψ I → ψ I'} (h : ∀ I, φ I → ψ I) (H : St W (ever φ m :: l) w) : St W (ever ψ m' :: l) w :=
 H.imp fun I _ ⟨h1, h2, ho, l1, l2, ha, hl⟩ => ⟨h1, h2, ho, l1, l2, h I ha, hl⟩
theorem St.get {b : Nat} {o : Obj} (H : St W (blk b o :: l) w) : w.heap[b]? = some o := by
 obtain ⟨I, h, a, bb, c, h1, h2, ho, l1, l2, hx, hl⟩ := H.mem
 exact c b o (l1 b o hx)
theorem St.put {b : Nat} {o u : Obj} (H : St W (blk b o :: l) w) (h1 : w'.os = w.os) (h2 : w'.tape = w.tape) (h3 : w'.output = w.output) (h4 : w'.heap = w.heap.setIfInBounds b u) : St W (blk b u :: l) w' := by
 obtain ⟨I, h, a, bb, c, k1, k2, ho, l1, l2, hx, hl⟩ := H.mem
 have hb := c b o (l1 b o hx)
 have hlt : b < w.heap.size := (Array.getElem?_eq_some_iff.1 hb).1
 refine ⟨h1.trans H.os, h2.trans H.tape, h3.trans H.output, by rw [h4]; simpa using H.size, I, fun x => if x = b then some u else k2 x, ?_, ?_, ?_, fun x => if x = b then some u else none, k2, ?_, ?_, ?_, ?_, hl⟩
 ·intro x
  by_cases e : x = b
  ·subst e; exact .inl ((a x).resolve_right (by rw [l1 x o hx]; simp))
  ·simp only [e, if_false]
   exact PMap.off_le a l2 x
 ·intro x v hv
  rw [h4, Array.getElem?_setIfInBounds]
  have hne : b ≠ x := by
   intro e; subst e
   have := (a b).resolve_right (by rw [l1 b o hx]; simp)
   rw [this] at hv; cases hv
  rw [if_neg hne]; exact bb x v hv
 ·intro x v hv
  rw [h4, Array.getElem?_setIfInBounds]
  by_cases e : x = b
  ·subst e; simp at hv; simp [hlt, hv]
  ·simp only [e, if_false] at hv
   rw [if_neg (fun h => e h.symm)]
   exact c x v (l2 x v hv)
 ·intro x
  by_cases e : x = b
  ·subst e; right; exact (ho x).resolve_left (by rw [hx]; simp)
  ·left; simp [e]
 ·intro x v hv
  by_cases e : x = b <;> simp [e] at hv ⊢; exact hv
 ·intro x v hv
  have : x ≠ b := by
   intro e; subst e
   have := (ho x).resolve_left (by rw [hx]; simp)
   rw [this] at hv; cases hv
  simp [this, hv]
 ·show (fun x => if x = b then some u else none) b = some u
  simp
theorem St.alloc (o : Obj) (H : St W l w) : St W (blk w.heap.size o :: l) (w.alloc o) := by
 obtain ⟨I, h, a, bb, c, hl⟩ := H.mem
 have hI : I w.heap.size = none := by
  cases e : I w.heap.size with
  | none => rfl
  | some u => have := bb _ _ e; simp at this
 have hh : h w.heap.size = none := by
  cases e : h w.heap.size with
  | none => rfl
  | some u => have := c _ _ e; simp at this
 refine ⟨H.os, H.tape, H.output, by have := H.size; simp; omega, I, fun x => if x = w.heap.size then some o else h x, ?_, ?_, ?_, fun x => if x = w.heap.size then some o else none, h, ?_, ?_, ?_, ?_, hl⟩
 ·intro x
  by_cases e : x = w.heap.size
  ·subst e; exact .inl hI
  ·simp only [e, if_false]; exact a x
 ·intro x v hv
  have hlt : x < w.heap.size := (Array.getElem?_eq_some_iff.1 (bb x v hv)).1
  simp only [World.alloc, Array.getElem?_push]
  rw [if_neg (by omega)]; exact bb x v hv
 ·intro x v hv
  simp only [World.alloc, Array.getElem?_push]
  by_cases e : x = w.heap.size
  ·simp [e] at hv ⊢; exact hv
  ·simp only [e, if_false] at hv ⊢; exact c x v hv
 ·intro x
  by_cases e : x = w.heap.size
  ·right; rw [e]; exact hh
  ·left; simp [e]
 ·intro x v hv
  by_cases e : x = w.heap.size <;> simp [e] at hv ⊢; exact hv
 ·intro x v hv
  have : x ≠ w.heap.size := by intro e; rw [e, hh] at hv; cases hv
  simp [this, hv]
 ·show (fun x => if x = w.heap.size then some o else none) w.heap.size = some o
  simp
theorem St.stay {b : Nat} {o : Obj} (H : St W (blk b o :: l) w) : St W (ever (fun I => I b = some o) (fun h k => h _ _ k) :: l) w := by
 obtain ⟨I, h, a, bb, c, k1, k2, ho, l1, l2, hx, hl⟩ := H.mem
 have hb := c b o (l1 b o hx)
 have hIb : I b = none := (a b).resolve_right (by rw [l1 b o hx]; simp)
 have hle : PMap.le I (fun x => if x = b then some o else I x) := by
  intro x v hv
  have : x ≠ b := by intro e; rw [e, hIb] at hv; cases hv
  simp [this, hv]
 refine ⟨H.os, H.tape, H.output, H.size, fun x => if x = b then some o else I x, k2, ?_, ?_, ?_, fun _ => none, k2, fun _ => .inl rfl, fun _ _ h => (by cases h), PMap.le_refl _, ?_, Seps.mono hle (PMap.le_refl _) hl⟩
 ·intro x
  by_cases e : x = b
  ·subst e; right; exact (ho x).resolve_left (by rw [hx]; simp)
  ·simp only [e, if_false]; exact PMap.off_le a l2 x
 ·intro x v hv
  by_cases e : x = b
  ·subst e; simp at hv; subst hv; exact hb
  ·simp only [e, if_false] at hv; exact bb x v hv
 ·intro x v hv; exact c x v (l2 x v hv)
 ·show (fun x => if x = b then some o else I x) b = some o
  simp
end
end Go.Proofs.YtehclfjjjiiieaaGreat.Cf
namespace Go.Proofs.YtehclfjjjiiieaaGreat.Cf
set_option linter.unusedSimpArgs false
set_option linter.unusedVariables false
open Go
section
variable {W w w' : World} {l l' : List Assn} {A B : Assn} {α : Type} {T : Ty α} {t : TypeId}
theorem add_at (b o n : Nat) : (⟨b, o, none⟩ : Addr).add n = ⟨b, o + n, none⟩ := by
 unfold Addr.add
 by_cases h : n = 0
 ·subst h; rfl
 ·rw [if_neg h]
theorem cell_of_blk {b : Nat} {cs : Array Value} {fz : Nat × Nat} (h : w.heap[b]? = some (.cells cs t fz)) (j : Nat) : w.cell? ⟨b, j, none⟩ = cs[j]? := by
 simp [World.cell?, h]
theorem frozen_of_blk {b : Nat} {cs : Array Value} (h : w.heap[b]? = some (.cells cs t)) (j : Nat) : w.frozen? ⟨b, j, none⟩ = false := by
 simp [World.frozen?, h]
def at_ (cs : List Value) (o n : Nat) : List Value := (cs.drop o).take n
theorem rd_cel {b o : Nat} {cs xs : List Value} (H : St W (cel b cs t :: l) w) (h : at_ cs o xs.length = xs) : Rd w ⟨b, o, none⟩ xs := by
 intro j v hv
 have hb := H.get
 rw [add_at, cell_of_blk hb]
 have hlt := (List.getElem?_eq_some_iff.1 hv).1
 rw [← h] at hv
 simp only [at_, List.getElem?_take, List.getElem?_drop] at hv
 rw [if_pos hlt] at hv
 simpa using hv
theorem wr_cel {b o n : Nat} {cs : List Value} (H : St W (cel b cs t :: l) w) (h : o + n ≤ cs.length) : Wr w ⟨b, o, none⟩ n := by
 intro j hj
 have hb := H.get
 rw [add_at]
 refine ⟨?_, frozen_of_blk hb _⟩
 rw [cell_of_blk hb]
 have : o + j < cs.toArray.size := by simp; omega
 rw [Array.getElem?_eq_getElem this]; rfl
theorem rdat_cel {α : Type} (T : Ty α) {b o : Nat} {cs : List Value} {x : α} {a : Addr} (H : St W (cel b cs t :: l) w) (ha : a = ⟨b, o, none⟩) (h : at_ cs o (T.cells x).length = T.cells x) : RdAt T a w x := by subst ha; exact rd_cel H h
def splice (cs : List Value) (o : Nat) (xs : List Value) : List Value := cs.take o ++ xs ++ cs.drop (o + xs.length)
theorem splice_cons (cs : List Value) (o : Nat) (v : Value) (xs : List Value) (h : o < cs.length) : splice (cs.set o v) (o + 1) xs = splice cs o (v :: xs) := by
 simp only [splice, List.length_cons]
 rw [List.drop_set_of_lt (by omega), List.take_set, List.take_add_one]
 have h1 : cs[o]?.toList = [cs[o]] := by rw [List.getElem?_eq_getElem h]; rfl
 rw [h1]
 have h2 : (cs.take o ++ [cs[o]]).set o v = cs.take o ++ [v] := by
  rw [List.set_append_right _ _ (by simp; omega)]
  have : o - (cs.take o).length = 0 := by simp; omega
  rw [this]; rfl
 rw [h2, show o + 1 + xs.length = o + (xs.length + 1) from by omega]
 simp
theorem splice_nil (cs : List Value) (o : Nat) : splice cs o [] = cs := by simp [splice]
theorem setCell_heap {b o : Nat} {cs : Array Value} {fz : Nat × Nat} {v : Value} (h : w.heap[b]? = some (.cells cs t fz)) : (w.setCell ⟨b, o, none⟩ v).heap = w.heap.setIfInBounds b (.cells (cs.setIfInBounds o v) t fz) := by
 have hlt : b < w.heap.size := (Array.getElem?_eq_some_iff.1 h).1
 simp only [World.setCell]
 apply Array.ext_getElem?
 intro i
 rw [Array.getElem?_modify, Array.getElem?_setIfInBounds]
 by_cases e : b = i
 ·subst e
  have hb : w.heap[b] = .cells cs t fz := by rw [Array.getElem?_eq_getElem hlt] at h; exact Option.some.inj h
  simp [hlt, hb]
 ·simp [e]
theorem putc_cel {b : Nat} : ∀ (xs : List Value) (o i : Nat) (cs : List Value) (w : World), St W (cel b cs t :: l) w → o + i + xs.length ≤ cs.length →
  St W (cel b (splice cs (o + i) xs) t :: l) (putc w ⟨b, o, none⟩ i xs)
 | [], o, i, cs, w, H, _ => by rw [splice_nil]; exact H
 | v :: xs, o, i, cs, w, H, hl => by
  have hb := H.get
  have hlt : o + i < cs.length := by simp at hl; omega
  have H1 : St W (cel b (cs.set (o + i) v) t :: l) (w.setCell ⟨b, o + i, none⟩ v) := H.put rfl rfl rfl (by rw [setCell_heap hb]; simp)
  have := putc_cel xs o (i + 1) (cs.set (o + i) v) _ H1 (by simp at hl ⊢; omega)
  rw [show o + (i + 1) = o + i + 1 from by omega, splice_cons _ _ _ _ hlt] at this
  simpa only [putc, add_at] using this
theorem nw_st {x : α} {k : Addr → World → Prop} (H : St W l w) (hk : ∀ b w', St W (cel b (T.cells x) t :: l) w' → k ⟨b, 0, none⟩ w') : nw t T x w k := hk _ _ (H.alloc _)
theorem nwS_st {xs : List α} {k : Addr → World → Prop} (H : St W l w) (hk : ∀ b w', St W (cel b (xs.flatMap T.cells) t :: l) w' → k ⟨b, 0, none⟩ w') : nwS t T xs w k := hk _ _ (H.alloc _)
theorem nwMap_st {k : Nat → World → Prop} (H : St W l w) (hk : ∀ b w', St W (blk b (.map #[] 0) :: l) w' → k b w') : nwMap w k := hk _ _ (H.alloc _)
theorem dr_st {k : World → Prop} (H : St W l w) (hk : ∀ w', St W l w' → k w') : dr w k := hk _ H.drew
theorem ld_st {b o : Nat} {cs : List Value} {x : α} {a : Addr} {k : α → Prop} (i : Nat) (H : St W l w) (hi : front i l = cel b cs t :: l') (ha : a = ⟨b, o, none⟩) (hx : at_ cs o (T.cells x).length = T.cells x) (hk : k x) : ex (RdAt T a w) k :=
 ⟨x, by subst ha; exact rd_cel (hi ▸ H.front i) hx, hk⟩
theorem st_st {b o : Nat} {cs : List Value} {x : α} {a : Addr} {k : World → Prop} (i : Nat) (H : St W l w) (hi : front i l = cel b cs t :: l') (ha : a = ⟨b, o, none⟩) (hl : o + (T.cells x).length ≤ cs.length)
  (hk : ∀ w', St W (cel b (splice cs o (T.cells x)) t :: l') w' → k w') : st T a x w k := by
 subst ha
 exact ⟨wr_cel (hi ▸ H.front i) hl, hk _ (putc_cel (T.cells x) o 0 cs w (hi ▸ H.front i) (by simpa using hl))⟩
theorem ex_i {α : Type} {C k : α → Prop} (x : α) (h : C x) (hk : k x) : ex C k := ⟨x, h, hk⟩
theorem nc_st {p : Option Addr} {a : Addr} {k : Addr → Prop} (h : p = some a) (hk : k a) : ex (NC p) k := ⟨a, h, hk⟩
def orA (A B : Assn) : Assn := ⟨fun I h => A.p I h ∨ B.p I h, fun hI hh h => h.imp (A.mono hI hh) (B.mono hI hh)⟩
theorem St.or (H : St W (orA A B :: l) w) : St W (A :: l) w ∨ St W (B :: l) w := by
 obtain ⟨I, h, a, b, c, h1, h2, ho, l1, l2, hx, hl⟩ := H.mem
 rcases hx with hx | hx
 ·exact .inl ⟨H.os, H.tape, H.output, H.size, I, h, a, b, c, h1, h2, ho, l1, l2, hx, hl⟩
 ·exact .inr ⟨H.os, H.tape, H.output, H.size, I, h, a, b, c, h1, h2, ho, l1, l2, hx, hl⟩
theorem St.inl (H : St W (A :: l) w) : St W (orA A B :: l) w := H.imp fun _ _ ⟨h1, h2, ho, l1, l2, ha, hl⟩ => ⟨h1, h2, ho, l1, l2, .inl ha, hl⟩
theorem St.inr (H : St W (B :: l) w) : St W (orA A B :: l) w := H.imp fun _ _ ⟨h1, h2, ho, l1, l2, ha, hl⟩ => ⟨h1, h2, ho, l1, l2, .inr ha, hl⟩
def nilS : Slc := ⟨none, 0, 0⟩
def row (T : Ty α) (t : TypeId) (sz : Nat) (s : Slc) (xs : List α) : Assn :=
 orA (puA (s = nilS ∧ xs = [])) (exA fun b => exA fun rest => sepA [puA (s.a = some ⟨b, 0, none⟩ ∧ s.len = xs.length ∧ s.len ≤ s.cap ∧ (s.cap - s.len) * sz ≤ rest.length), cel b (xs.flatMap T.cells ++ rest) t])
def RoP (T : Ty α) (s : Slc) (xs : List α) (I : PMap) : Prop :=
 xs.length = s.len ∧ (xs = [] ∨ ∃ b o arr t fz, s.a = some ⟨b, o, none⟩ ∧ I b = some (.cells arr t fz) ∧ ∀ j v, (xs.flatMap T.cells)[j]? = some v → arr[o + j]? = some v)
theorem RoP.mono {s : Slc} {xs : List α} {I I' : PMap} (h : PMap.le I I') : RoP T s xs I → RoP T s xs I' := fun ⟨h1, h2⟩ =>
 ⟨h1, h2.imp id fun ⟨b, o, arr, t, fz, h3, h4, h5⟩ => ⟨b, o, arr, t, fz, h3, h _ _ h4, h5⟩⟩
def ro (T : Ty α) (s : Slc) (xs : List α) : Assn := ever (RoP T s xs) RoP.mono
theorem row_nil (T : Ty α) (t : TypeId) (sz : Nat) (H : St W l w) : St W (row T t sz nilS [] :: l) w := St.inl (St.toPu ⟨rfl, rfl⟩ H)
theorem row_open {sz : Nat} {s : Slc} {xs : List α} (H : St W (row T t sz s xs :: l) w) :
  (s = nilS ∧ xs = [] ∧ St W l w) ∨ ∃ b rest, s.a = some ⟨b, 0, none⟩ ∧ s.len = xs.length ∧ s.len ≤ s.cap ∧ (s.cap - s.len) * sz ≤ rest.length ∧ St W (cel b (xs.flatMap T.cells ++ rest) t :: l) w := by
 rcases H.or with H | H
 ·obtain ⟨⟨h1, h2⟩, H⟩ := H.pu
  exact .inl ⟨h1, h2, H⟩
 ·obtain ⟨b, H⟩ := H.ex
  obtain ⟨rest, H⟩ := H.ex
  have H := H.open_
  obtain ⟨⟨h1, h2, h3, h4⟩, H⟩ := St.pu (φ := s.a = some ⟨b, 0, none⟩ ∧ s.len = xs.length ∧ s.len ≤ s.cap ∧ (s.cap - s.len) * sz ≤ rest.length) H
  exact .inr ⟨b, rest, h1, h2, h3, h4, H⟩
theorem row_shut {sz b : Nat} {rest : List Value} {s : Slc} {xs : List α} (h1 : s.a = some ⟨b, 0, none⟩) (h2 : s.len = xs.length) (h3 : s.len ≤ s.cap) (h4 : (s.cap - s.len) * sz ≤ rest.length) (H : St W (cel b (xs.flatMap T.cells ++ rest) t :: l) w) :
  St W (row T t sz s xs :: l) w := St.inr (St.toEx b (St.toEx rest (St.shut (l' := [puA _, cel b (xs.flatMap T.cells ++ rest) t]) (St.toPu ⟨h1, h2, h3, h4⟩ H))))
theorem row_new {sz b : Nat} {xs : List α} {m : Nat} (hm : m = xs.length) (H : St W (cel b (xs.flatMap T.cells) t :: l) w) : St W (row T t sz ⟨some ⟨b, 0, none⟩, m, m⟩ xs :: l) w :=
 row_shut (rest := []) rfl hm (Nat.le_refl _) (by simp) (by rw [List.append_nil]; exact H)
theorem row_len {sz : Nat} {s : Slc} {xs : List α} (H : St W (row T t sz s xs :: l) w) : s.len = xs.length := by
 rcases row_open H with ⟨rfl, rfl, _⟩ | ⟨b, rest, _, h, _⟩
 ·rfl
 ·exact h
theorem ro_len {s : Slc} {xs : List α} (H : St W (ro T s xs :: l) w) : s.len = xs.length := by
 obtain ⟨I, _, h⟩ := H.everI; exact h.1.symm
theorem row_stay {sz : Nat} {s : Slc} {xs : List α} (H : St W (row T t sz s xs :: l) w) : St W (ro T s xs :: l) w := by
 rcases row_open H with ⟨rfl, rfl, H0⟩ | ⟨b, rest, h1, h2, h3, h4, H⟩
 ·exact H0.imp fun I h hl => ⟨fun _ => none, h, fun _ => .inl rfl, fun _ _ h => (by cases h), PMap.le_refl _, ⟨rfl, .inl rfl⟩, hl⟩
 ·refine St.impEver (fun I hI => ⟨h2.symm, .inr ⟨b, 0, _, t, (0, 0), h1, hI, ?_⟩⟩) H.stay
  intro j v hv
  have hlt := (List.getElem?_eq_some_iff.1 hv).1
  rw [Nat.zero_add]
  simp only [List.getElem?_toArray]
  rw [List.getElem?_append_left hlt]; exact hv
theorem flat_at {sz : Nat} (hl : ∀ x, (T.cells x).length = sz) : ∀ (xs : List α) (i : Nat) (x : α), xs[i]? = some x → ∀ j v, (T.cells x)[j]? = some v → (xs.flatMap T.cells)[i * sz + j]? = some v
 | [], i, x, h, _, _, _ => by simp at h
 | y :: xs, 0, x, h, j, v, hv => by
  simp at h; subst h
  have hlt := (List.getElem?_eq_some_iff.1 hv).1
  rw [List.flatMap_cons, Nat.zero_mul, Nat.zero_add, List.getElem?_append_left hlt]; exact hv
 | y :: xs, i + 1, x, h, j, v, hv => by
  have ih := flat_at hl xs i x (by simpa using h) j v hv
  rw [List.flatMap_cons, List.getElem?_append_right (by rw [hl, Nat.add_mul]; omega), hl]
  rw [show (i + 1) * sz + j - sz = i * sz + j from by rw [Nat.add_mul]; omega]; exact ih
theorem rd_row {sz : Nat} {s : Slc} {xs : List α} {i : Int} {a : Addr} {x : α} (hl : ∀ x, (T.cells x).length = sz) (ha : IxA s sz i a) (hx : xs[i.toNat]? = some x) (H : St W (row T t sz s xs :: l) w) : Rd w a (T.cells x) := by
 obtain ⟨c, hc, h0, h1, rfl⟩ := ha
 rcases row_open H with ⟨rfl, rfl, H⟩ | ⟨b, rest, h2, h3, h4, h5, H⟩
 ·cases hc
 ·rw [h2] at hc; injection hc with hc; subst hc
  have hb := H.get
  intro j v hv
  rw [add_at, add_at, cell_of_blk hb, Nat.zero_add]
  have := flat_at hl xs i.toNat x hx j v hv
  have hlt := (List.getElem?_eq_some_iff.1 this).1
  simp only [List.getElem?_toArray]
  rw [List.getElem?_append_left hlt]; exact this
theorem rd_ro {sz : Nat} {s : Slc} {xs : List α} {i : Int} {a : Addr} {x : α} (hl : ∀ x, (T.cells x).length = sz) (ha : IxA s sz i a) (hx : xs[i.toNat]? = some x) (H : St W (ro T s xs :: l) w) : Rd w a (T.cells x) := by
 obtain ⟨c, hc, h0, h1, rfl⟩ := ha
 obtain ⟨I, hI, h2, h3 | ⟨b, o, arr, t', fz, h4, h5, h6⟩⟩ := H.everI
 ·rw [h3] at hx; simp at hx
 ·rw [h4] at hc; injection hc with hc; subst hc
  intro j v hv
  rw [add_at, add_at, cell_of_blk (hI _ _ h5)]
  rw [show o + i.toNat * sz + j = o + (i.toNat * sz + j) from by omega]
  exact h6 _ _ (flat_at hl xs i.toNat x hx j v hv)
theorem ixa_row {sz : Nat} {s : Slc} {xs : List α} {i : Int} {k : Addr → Prop} (H : St W (row T t sz s xs :: l) w) (h0 : 0 ≤ i) (h1 : i < xs.length) (hk : ∀ a, IxA s sz i a → k a) : ex (IxA s sz i) k := by
 rcases row_open H with ⟨rfl, rfl, H⟩ | ⟨b, rest, h2, h3, _⟩
 ·simp at h1; omega
 ·exact ⟨_, ⟨_, h2, h0, by omega, rfl⟩, hk _ ⟨_, h2, h0, by omega, rfl⟩⟩
theorem ixa_ro {sz : Nat} {s : Slc} {xs : List α} {i : Int} {k : Addr → Prop} (H : St W (ro T s xs :: l) w) (h0 : 0 ≤ i) (h1 : i < xs.length) (hk : ∀ a, IxA s sz i a → k a) : ex (IxA s sz i) k := by
 obtain ⟨I, hI, h2, h3 | ⟨b, o, arr, t', fz, h4, h5, h6⟩⟩ := H.everI
 ·rw [h3] at h1; simp at h1; omega
 ·exact ⟨_, ⟨_, h4, h0, by omega, rfl⟩, hk _ ⟨_, h4, h0, by omega, rfl⟩⟩
theorem Rd_sub {a : Addr} {cs ys : List Value} {o : Nat} (h : Rd w a cs) (ha : a.spot = none) (hs : at_ cs o ys.length = ys) : Rd w (a.add o) ys := by
 intro j v hv
 have hlt := (List.getElem?_eq_some_iff.1 hv).1
 rw [← hs] at hv
 simp only [at_, List.getElem?_take, List.getElem?_drop] at hv
 rw [if_pos hlt] at hv
 have := h (o + j) v hv
 obtain ⟨b, p, q⟩ := a
 simp only at ha; subst ha
 rw [add_at, add_at] at *
 rw [show p + o + j = p + (o + j) from by omega]; exact this
theorem RdO_row {sz : Nat} {s : Slc} {xs : List α} (H : St W (row T t sz s xs :: l) w) : RdS T w s xs := by
 rcases row_open H with ⟨rfl, rfl, H⟩ | ⟨b, rest, h2, h3, h4, h5, H⟩
 ·exact ⟨rfl, rfl⟩
 ·refine ⟨h3.symm, ?_⟩
  rw [h2]
  have hb := H.get
  intro j v hv
  have hlt := (List.getElem?_eq_some_iff.1 hv).1
  rw [add_at, cell_of_blk hb, Nat.zero_add]
  simp only [List.getElem?_toArray]
  rw [List.getElem?_append_left hlt]; exact hv
theorem RdO_ro {s : Slc} {xs : List α} (H : St W (ro T s xs :: l) w) : RdS T w s xs := by
 obtain ⟨I, hI, h2, h3 | ⟨b, o, arr, t', fz, h4, h5, h6⟩⟩ := H.everI
 ·refine ⟨h2, ?_⟩
  subst h3
  generalize s.a = q
  cases q with
  | none => rfl
  | some a => intro j v hv; simp at hv
 ·refine ⟨h2, ?_⟩
  rw [h4]
  intro j v hv
  rw [add_at, cell_of_blk (hI _ _ h5)]
  exact h6 _ _ hv
theorem app_row {sz by_ : Nat} {s : Slc} {xs new : List α} {k : Slc → World → Prop} (hl : ∀ x, (T.cells x).length = sz) (H : St W (row T t sz s xs :: l) w) (hb : (xs.length + new.length) * by_ ≤ 140737488355328)
  (hk : ∀ r w', St W (row T t sz r (xs ++ new) :: l) w' → k r w') : app t T sz by_ s new w k := by
 have hn := row_len H
 have hrd := RdO_row H
 refine ⟨fun hc => ?_, fun hc => ⟨by rw [hn]; exact hb, xs, hrd, fun c rest h1 h2 => ?_⟩⟩
 ·rcases row_open H with ⟨rfl, rfl, H0⟩ | ⟨b, rest, h2, h3, h4, h5, H⟩
  ·have h0 : new = [] := by
    cases new with
    | nil => rfl
    | cons => simp [nilS] at hc
   subst h0
   exact hk _ _ (row_nil T t sz H0)
  ·rw [h2]
   simp only [add_at, Nat.zero_add]
   have hfl : (xs.flatMap T.cells).length = s.len * sz := by rw [flat_len hl, h3]
   have hnl : (new.flatMap T.cells).length = new.length * sz := flat_len hl _
   have hrl : new.length * sz ≤ rest.length := Nat.le_trans (Nat.mul_le_mul_right sz (by omega)) h5
   refine ⟨wr_cel H (by simp [hfl]; omega), hk _ _ ?_⟩
   have := putc_cel (new.flatMap T.cells) (s.len * sz) 0 _ _ H (by simp [hfl, hnl]; omega)
   refine row_shut (rest := rest.drop (new.length * sz)) rfl (by simp; omega) (by simpa using hc) (by
    rw [List.length_drop]
    have e : (s.cap - (s.len + new.length)) * sz = (s.cap - s.len) * sz - new.length * sz := by rw [← Nat.sub_mul]; congr 1; omega
    simp only
    rw [e]; omega) ?_
   have e : splice (xs.flatMap T.cells ++ rest) (s.len * sz + 0) (new.flatMap T.cells) = (xs ++ new).flatMap T.cells ++ rest.drop (new.length * sz) := by
    simp only [splice, Nat.add_zero, hnl]
    rw [← hfl, List.take_left, List.drop_append]
    simp
   rw [e] at this
   exact this
 ·have H1 : St W l w.drew := (H.drop).drew
  refine hk _ _ (row_shut rfl (by simp; omega) h1 (by simpa using Nat.le_of_eq h2.symm) (H1.alloc _))
theorem apl_row {sz by_ : Nat} {s : Slc} {xs new : List α} {k : Slc → World → Prop} (hl : ∀ x, (T.cells x).length = sz) (i : Nat) (H : St W l w) (hi : front i l = row T t sz s xs :: l') (hb : (xs.length + new.length) * by_ ≤ 140737488355328)
  (hk : ∀ r w', St W (row T t sz r (xs ++ new) :: l') w' → k r w') : apl t T sz by_ s new w k := by
 have H1 : St W (row T t sz s xs :: l') w := hi ▸ H.front i
 have H2 := H1.alloc (.cells (new.flatMap T.cells).toArray t)
 exact app_row hl H2.drop hb hk
theorem apd_row {sz by_ : Nat} {s b : Slc} {xs new : List α} {k : Slc → World → Prop} (hl : ∀ x, (T.cells x).length = sz) (i : Nat) (H : St W l w) (hi : front i l = row T t sz s xs :: l') (hn : RdS T w b new) (hb : (xs.length + new.length) * by_ ≤ 140737488355328)
  (hk : ∀ r w', St W (row T t sz r (xs ++ new) :: l') w' → k r w') : apd t T sz by_ s b w k :=
 ⟨new, hn, app_row hl (hi ▸ H.front i) hb hk⟩
end
end Go.Proofs.YtehclfjjjiiieaaGreat.Cf
namespace Go.Proofs.YtehclfjjjiiieaaGreat.Cf
set_option linter.unusedSimpArgs false
set_option linter.unusedVariables false
open Go
section
variable {W w w' : World} {l l' : List Assn} {A B : Assn} {α : Type} {T : Ty α} {t : TypeId} {k : IntKind}
theorem lookup_ups (key : Int) (v : α) (x : Int) : ∀ es : List (Int × α), (ups key v es).lookup x = if x == key then some v else es.lookup x
 | [] => by
  by_cases h : (x == key) = true
  ·simp [ups, List.lookup, h]
  ·simp only [Bool.not_eq_true] at h; simp [ups, List.lookup, h]
 | (a, b) :: es => by
  have ih := lookup_ups key v x es
  simp only [ups]
  by_cases h : (key == a) = true
  ·have e : key = a := by simpa using h
   subst e
   by_cases g : (x == key) = true
   ·simp [List.lookup, g]
   ·simp only [Bool.not_eq_true] at g; simp [List.lookup, g]
  ·simp only [Bool.not_eq_true] at h
   simp only [h, Bool.false_eq_true, if_false, List.lookup, ih]
   by_cases g : (x == a) = true
   ·have e : x = a := by simpa using g
    subst e
    have : (x == key) = false := by simpa using fun e => by simp [e] at h
    simp [this]
   ·simp only [Bool.not_eq_true] at g; simp [g]
theorem keys_ups (key : Int) (v : α) : ∀ es : List (Int × α), (ups key v es).map (·.1) = if (es.lookup key).isSome then es.map (·.1) else es.map (·.1) ++ [key]
 | [] => rfl
 | (a, b) :: es => by
  have ih := keys_ups key v es
  simp only [ups]
  by_cases h : (key == a) = true
  ·have e : key = a := by simpa using h
   subst e; simp [List.lookup]
  ·simp only [Bool.not_eq_true] at h
   simp only [h, Bool.false_eq_true, if_false, List.lookup, List.map_cons, ih]
   split <;> simp
theorem lookup_none {key : Int} : ∀ {es : List (Int × α)}, es.lookup key = none ↔ key ∉ es.map (·.1)
 | [] => by simp
 | (a, b) :: es => by
  by_cases h : (key == a) = true
  ·have e : key = a := by simpa using h
   subst e; simp [List.lookup]
  ·simp only [Bool.not_eq_true] at h
   have e : key ≠ a := by simpa using h
   simp only [List.lookup, h, List.map_cons, List.mem_cons, e, false_or]
   exact lookup_none
theorem nodup_ups {key : Int} {v : α} {es : List (Int × α)} (h : (es.map (·.1)).Nodup) : ((ups key v es).map (·.1)).Nodup := by
 rw [keys_ups]
 split
 ·exact h
 ·rename_i hn
  have : es.lookup key = none := by cases e : es.lookup key with | none => rfl | some u => rw [e] at hn; simp at hn
  rw [List.nodup_append]
  refine ⟨h, by simp, ?_⟩
  intro a ha b hb e
  simp at hb; subst hb; subst e
  exact lookup_none.1 this ha
theorem keys_del {key : Int} : ∀ {es : List (Int × α)}, ((del key es).map (·.1)).Sublist (es.map (·.1))
 | [] => .slnil
 | (a, b) :: es => by
  simp only [del]
  split
  ·exact (List.sublist_cons_self _ _)
  ·exact (keys_del (es := es)).cons_cons a
theorem nodup_del {key : Int} {es : List (Int × α)} (h : (es.map (·.1)).Nodup) : ((del key es).map (·.1)).Nodup := h.sublist keys_del
theorem lookup_del (key x : Int) : ∀ es : List (Int × α), (es.map (·.1)).Nodup → (del key es).lookup x = if x == key then none else es.lookup x
 | [], _ => by simp [del]
 | (a, b) :: es, h => by
  have hn : a ∉ es.map (·.1) := (List.nodup_cons.1 h).1
  have ih := lookup_del key x es (List.nodup_cons.1 h).2
  simp only [del]
  by_cases g : (key == a) = true
  ·have e : key = a := by simpa using g
   subst e
   simp only [g, if_true, List.lookup]
   by_cases q : (x == key) = true
   ·have e : x = key := by simpa using q
    subst e; simp [lookup_none.2 hn]
   ·simp only [Bool.not_eq_true] at q; simp [q]
  ·simp only [Bool.not_eq_true] at g
   simp only [g, Bool.false_eq_true, if_false, List.lookup, ih]
   by_cases q : (x == a) = true
   ·have e : x = a := by simpa using q
    subst e
    have : (x == key) = false := by simpa using fun e => by simp [e] at g
    simp [this]
   ·simp only [Bool.not_eq_true] at q; simp [q]
def mapE (T : Ty α) (k : IntKind) (r : Nat) (es : List (Int × α)) : Assn := exA fun arr => exA fun c => sepA [puA (Reps T k arr es ∧ Born arr c ∧ (es.map (·.1)).Nodup), blk r (.map arr c)]
theorem mapE_open {r : Nat} {es : List (Int × α)} (H : St W (mapE T k r es :: l) w) : ∃ arr c, Reps T k arr es ∧ Born arr c ∧ (es.map (·.1)).Nodup ∧ St W (blk r (.map arr c) :: l) w := by
 obtain ⟨arr, H⟩ := H.ex
 obtain ⟨c, H⟩ := H.ex
 have H := H.open_
 obtain ⟨⟨h1, hb, h2⟩, H⟩ := St.pu (φ := Reps T k arr es ∧ Born arr c ∧ (es.map (·.1)).Nodup) H
 exact ⟨arr, c, h1, hb, h2, H⟩
theorem mapE_shut {r : Nat} {es : List (Int × α)} {arr : Array MapEntry} {c : Nat} (h1 : Reps T k arr es) (hb : Born arr c) (h2 : (es.map (·.1)).Nodup) (H : St W (blk r (.map arr c) :: l) w) : St W (mapE T k r es :: l) w :=
 St.toEx arr (St.toEx c (St.shut (l' := [puA _, blk r (.map arr c)]) (St.toPu ⟨h1, hb, h2⟩ H)))
theorem mapE_nodup {r : Nat} {es : List (Int × α)} (H : St W (mapE T k r es :: l) w) : (es.map (·.1)).Nodup := by
 obtain ⟨_, _, _, _, h, _⟩ := mapE_open H; exact h
theorem mapE_new {r : Nat} (T : Ty α) (k : IntKind) (H : St W (blk r (.map #[] 0) :: l) w) : St W (mapE T k r [] :: l) w := mapE_shut (by simp [Reps]) ⟨by simp, by simp⟩ (by simp) H
theorem mget_st {r : Nat} {es : List (Int × α)} {key : Int} {K : Option α → Prop} {m : Option Nat} (i : Nat) (H : St W l w) (hi : front i l = mapE T k r es :: l') (hm : m = some r) (hk : K (es.lookup key)) : ex (MapGet T k m key w) K := by
 obtain ⟨arr, c, h1, hbo, h2, H⟩ := mapE_open (hi ▸ H.front i)
 subst hm
 exact ⟨_, ⟨es, ⟨arr, c, H.get, h1, hbo⟩, rfl⟩, hk⟩
theorem mlen_st {r : Nat} {es : List (Int × α)} {K : Nat → Prop} {m : Option Nat} (i : Nat) (H : St W l w) (hi : front i l = mapE T k r es :: l') (hm : m = some r) (hk : K es.length) : ex (MapLen m w) K := by
 obtain ⟨arr, c, h1, hbo, h2, H⟩ := mapE_open (hi ▸ H.front i)
 subst hm
 have hl : es.length = arr.size := by have := congrArg List.length h1; simpa using this.symm
 exact ⟨_, ⟨arr, c, H.get, hl⟩, hk⟩
theorem setMap_put {r : Nat} {o : Obj} {arr : Array MapEntry} {c : Nat} (H : St W (blk r o :: l) w) : St W (blk r (.map arr c) :: l) (setMap w r arr c) := H.put rfl rfl rfl rfl
theorem mput_st {r : Nat} {es : List (Int × α)} {key : Int} {v : α} {K : World → Prop} {m : Option Nat} (i : Nat) (H : St W l w) (hi : front i l = mapE T k r es :: l') (hm : m = some r)
  (hk : ∀ w', St W (mapE T k r (ups key v es) :: l') w' → K w') : mput T k m key v w K := by
 obtain ⟨arr, c, h1, hbo, h2, H⟩ := mapE_open (hi ▸ H.front i)
 exact ⟨r, es, hm, ⟨arr, c, H.get, h1, hbo⟩, fun arr' c' h' hb' => hk _ (mapE_shut h' hb' (nodup_ups h2) (setMap_put H))⟩
theorem mdel_st {r : Nat} {es : List (Int × α)} {key : Int} {K : World → Prop} {m : Option Nat} (i : Nat) (H : St W l w) (hi : front i l = mapE T k r es :: l') (hm : m = some r)
  (hk : ∀ w', St W (mapE T k r (del key es) :: l') w' → K w') : mdel T k m key w K := by
 obtain ⟨arr, c, h1, hbo, h2, H⟩ := mapE_open (hi ▸ H.front i)
 subst hm
 exact ⟨es, ⟨arr, c, H.get, h1, hbo⟩, fun arr' c' h' hb' => hk _ (mapE_shut h' hb' (nodup_del h2) (setMap_put H))⟩
theorem wrap_i64 {x : Int} (h0 : -9223372036854775808 ≤ x) (h1 : x ≤ 9223372036854775807) : IntKind.i64.wrap x = x := by
 rw [IntKind.wrap_i64]; omega
theorem sub_at {s r : Slc} {sz : Nat} {i h m : Int} (H : Sub s sz i h m r) : r.len = (h - i).toNat ∧ r.cap = (m - i).toNat ∧ (∀ b o, s.a = some ⟨b, o, none⟩ → m ≠ i → r.a = some ⟨b, o + i.toNat * sz, none⟩) := by
 obtain ⟨h0, h1, h2, h3, rfl⟩ := H
 refine ⟨by simp; omega, by simp; omega, fun b o hb hm => ?_⟩
 have : m.toNat ≠ i.toNat := by omega
 simp only [this, if_false, hb, Option.map_some, add_at]
theorem sub_st {s : Slc} {sz : Nat} {i h m : Int} {K : Slc → Prop} (h0 : 0 ≤ i) (h1 : i ≤ h) (h2 : h ≤ m) (h3 : m ≤ s.cap) (hk : ∀ r, Sub s sz i h m r → K r) : ex (Sub s sz i h m) K := ⟨_, ⟨h0, h1, h2, h3, rfl⟩, hk _ ⟨h0, h1, h2, h3, rfl⟩⟩
theorem rdS_sub {sz : Nat} {s r : Slc} {xs : List α} {i : Int} (hl : ∀ x, (T.cells x).length = sz) (hs : Sub s sz i s.len s.cap r) (H : St W (row T t sz s xs :: l) w) : RdS T w r (xs.drop i.toNat) := by
 obtain ⟨g1, g2, g3⟩ := sub_at hs
 obtain ⟨h0, h1, h2, h3, hr⟩ := hs
 have hn := row_len H
 refine ⟨by rw [g1, List.length_drop]; omega, ?_⟩
 rcases row_open H with ⟨rfl, rfl, H⟩ | ⟨b, rest, k1, k2, k3, k4, H⟩
 ·have ha : r.a = none := by
   rw [hr]
   show (if (nilS.cap : Int).toNat = i.toNat then nilS.a else nilS.a.map (·.add (i.toNat * sz))) = none
   split <;> rfl
  rw [ha]; simp [RdO]
 ·by_cases e : (s.cap : Int) = i
  ·have : xs.drop i.toNat = [] := List.drop_eq_nil_of_le (by omega)
   rw [this]
   cases hra : r.a with
   | none => rfl
   | some a => intro j v hv; simp at hv
  ·rw [g3 b 0 k1 e]
   intro j v hv
   have hb := H.get
   rw [add_at, cell_of_blk hb, Nat.zero_add]
   simp only [List.getElem?_toArray]
   have hd : (xs.drop i.toNat).flatMap T.cells = (xs.flatMap T.cells).drop (i.toNat * sz) := by
    have : xs.flatMap T.cells = (xs.take i.toNat).flatMap T.cells ++ (xs.drop i.toNat).flatMap T.cells := by rw [← List.flatMap_append, List.take_append_drop]
    have hl2 : ((xs.take i.toNat).flatMap T.cells).length = i.toNat * sz := by rw [flat_len hl, List.length_take]; congr 1; omega
    rw [this, ← hl2, List.drop_left]
   rw [hd, List.getElem?_drop] at hv
   have hlt := (List.getElem?_eq_some_iff.1 hv).1
   rw [List.getElem?_append_left hlt]; exact hv
end
end Go.Proofs.YtehclfjjjiiieaaGreat.Cf
namespace Go.Proofs.YtehclfjjjiiieaaGreat.Cf
set_option linter.unusedSimpArgs false
set_option linter.unusedVariables false
open Go Go.RowKit
section
variable {W w w' : World} {l l' : List Assn} {A B : Assn} {α β : Type} {T : Ty α} {U : Ty β} {t : TypeId}
theorem lp_i {σ : Type} {body : σ → World → (σ → World → Prop) → Prop} {s : σ} {w : World} (I : σ → World → Prop) (μ : σ → Nat) (h0 : I s w)
  (h : ∀ s w, I s w → body s w fun s' w' => I s' w' ∧ μ s' < μ s) : lp body s w := ⟨I, fun s _ => μ s, h0, h⟩
theorem row_ix {sz : Nat} {s : Slc} {xs : List α} {i : Int} (H : St W (row T t sz s xs :: l) w) (h0 : 0 ≤ i) (h1 : i < xs.length) : ∃ a, IxA s sz i a := by
 obtain ⟨a, h, _⟩ := ixa_row (k := fun _ => True) H h0 h1 fun _ _ => trivial
 exact ⟨a, h⟩
theorem ro_ix {sz : Nat} {s : Slc} {xs : List α} {i : Int} (H : St W (ro T s xs :: l) w) (h0 : 0 ≤ i) (h1 : i < xs.length) : ∃ a, IxA s sz i a := by
 obtain ⟨a, h, _⟩ := ixa_ro (k := fun _ => True) H h0 h1 fun _ _ => trivial
 exact ⟨a, h⟩
theorem row_spot {sz : Nat} {s : Slc} {xs : List α} {i : Int} {a : Addr} (ha : IxA s sz i a) (H : St W (row T t sz s xs :: l) w) : a.spot = none := by
 obtain ⟨c, hc, h0, h1, rfl⟩ := ha
 rcases row_open H with ⟨rfl, rfl, H⟩ | ⟨b, rest, h2, h3, h4, h5, H⟩
 ·cases hc
 ·rw [h2] at hc; injection hc with hc; subst hc; rw [add_at]
theorem ro_spot {sz : Nat} {s : Slc} {xs : List α} {i : Int} {a : Addr} (ha : IxA s sz i a) (H : St W (ro T s xs :: l) w) : a.spot = none := by
 obtain ⟨c, hc, h0, h1, rfl⟩ := ha
 obtain ⟨I, hI, h2, h3 | ⟨b, o, arr, t', fz, h4, h5, h6⟩⟩ := H.everI
 ·rw [h3] at h2; simp at h2; omega
 ·rw [h4] at hc; injection hc with hc; subst hc; rw [add_at]
theorem fld_row {sz o : Nat} {s : Slc} {xs : List α} {i : Int} {a : Addr} {x : α} {y : β} (hl : ∀ x, (T.cells x).length = sz) (ha : IxA s sz i a) (hx : xs[i.toNat]? = some x) (hs : at_ (T.cells x) o (U.cells y).length = U.cells y)
  (H : St W (row T t sz s xs :: l) w) : RdAt U (a.add o) w y := Rd_sub (rd_row hl ha hx H) (row_spot ha H) hs
theorem fld_ro {sz o : Nat} {s : Slc} {xs : List α} {i : Int} {a : Addr} {x : α} {y : β} (hl : ∀ x, (T.cells x).length = sz) (ha : IxA s sz i a) (hx : xs[i.toNat]? = some x) (hs : at_ (T.cells x) o (U.cells y).length = U.cells y)
  (H : St W (ro T s xs :: l) w) : RdAt U (a.add o) w y := Rd_sub (rd_ro hl ha hx H) (ro_spot ha H) hs
def old (W : World) : Assn := ever (fun I => PMap.le (fun b => W.heap[b]?) I) (fun h k => PMap.le_trans k h)
theorem St.start (W : World) : St W [old W] W :=
 ⟨rfl, rfl, rfl, Nat.le_refl _, fun b => W.heap[b]?, fun _ => none, fun _ => .inr rfl, fun _ _ h => h, fun _ _ h => (by cases h),
  fun _ => none, fun _ => none, fun _ => .inl rfl, fun _ _ h => (by cases h), fun _ _ h => (by cases h), PMap.le_refl _, trivial⟩
theorem ro_old {s : Slc} {xs : List α} (h : RoP T s xs fun b => W.heap[b]?) (H : St W (old W :: l) w) : St W (ro T s xs :: old W :: l) w :=
 St.impEver (m := fun h k => PMap.le_trans k h) (fun I hI => RoP.mono hI h) (St.dup (m := fun h k => PMap.le_trans k h) H)
theorem St.below (H : St W (old W :: l) w) : Below W.heap.size W w :=
 ⟨H.os, H.tape, H.output, H.size, fun k hk => by
  obtain ⟨I, hI, hle⟩ := St.everI (m := fun h k => PMap.le_trans k h) H
  have e : W.heap[k]? = some (W.heap[k]'hk) := Array.getElem?_eq_getElem hk
  rw [e]
  exact hI _ _ (hle _ _ e)⟩
theorem at_all (cs : List Value) : at_ cs 0 cs.length = cs := by simp [at_]
theorem splice_all {cs xs : List Value} (h : cs.length = xs.length) : splice cs 0 xs = xs := by simp [splice, ← h]
theorem vld_st {b : Nat} {x : α} {k : α → Prop} (i : Nat) (H : St W l w) (hi : front i l = cel b (T.cells x) t :: l') (hk : k x) : ex (RdAt T ⟨b, 0, none⟩ w) k := ld_st i H hi rfl (at_all _) hk
theorem vst_st {b n : Nat} {x y : α} {k : World → Prop} (hl : ∀ x, (T.cells x).length = n) (i : Nat) (H : St W l w) (hi : front i l = cel b (T.cells x) t :: l') (hk : ∀ w', St W (cel b (T.cells y) t :: l') w' → k w') : st T ⟨b, 0, none⟩ y w k :=
 st_st i H hi rfl (by rw [hl, hl]; omega) fun w' H => hk w' (by rw [splice_all (by rw [hl, hl])] at H; exact H)
end
end Go.Proofs.YtehclfjjjiiieaaGreat.Cf
namespace Go.Proofs.YtehclfjjjiiieaaGreat.Cf
set_option linter.unusedSimpArgs false
set_option linter.unusedVariables false
open Go Go.RowKit Go.ChangeShapes Go.WideShapes Go.Deep
section
variable {H : Type} {enc : TypeId × Value → H} {P : Program} {W : World} {base : Nat} {spare : Nat → Bool} {held : Bool} {α : Type}
def Opn (enc : TypeId × Value → H) (P : Program) (W : World) (base : Nat) (spare : Nat → Bool) (held : Bool) (t : TypeId) (T : Ty α) (G : α → Prop) : Prop :=
 ∀ fuel cs x, DataW.trod enc P W base spare held fuel t cs = some x → ∃ y : α, cs = T.cells y ∧ G y
theorem opn_int {t : TypeId} {k : IntKind} (ht : P.underlying t = some (.int k)) : Opn enc P W base spare held t (tInt k) fun n => k.min ≤ n ∧ n ≤ k.max := by
 intro fuel cs x h
 obtain ⟨n, rfl, _, hw⟩ := DataW.trod_int ht h
 refine ⟨n, rfl, ?_⟩
 simpa [Lit.wf] using hw
theorem opn_bool {t : TypeId} (ht : P.underlying t = some .bool) : Opn enc P W base spare held t tBool fun _ => True := by
 intro fuel cs x h
 obtain ⟨n, rfl, _⟩ := DataW.trod_bool ht h
 exact ⟨n, rfl, trivial⟩
theorem flat_split {T : Ty α} {sz : Nat} (hl : ∀ x, (T.cells x).length = sz) : ∀ (xs : List α) (j : Nat) (v : Value), (xs.flatMap T.cells)[j]? = some v → ∃ i k x, j = i * sz + k ∧ k < sz ∧ xs[i]? = some x ∧ (T.cells x)[k]? = some v := by
 intro xs
 induction xs with
 | nil => intro j v h; simp at h
 | cons x xs ih =>
  intro j v h
  rw [List.flatMap_cons] at h
  by_cases hj : j < sz
  ·rw [List.getElem?_append_left (by rw [hl]; exact hj)] at h
   exact ⟨0, j, x, by omega, hj, rfl, h⟩
  ·rw [List.getElem?_append_right (by rw [hl]; omega), hl] at h
   obtain ⟨i, k, y, e, hk, hy, hv⟩ := ih _ _ h
   refine ⟨i + 1, k, y, ?_, hk, hy, hv⟩
   rw [Nat.add_mul, Nat.one_mul]; omega
theorem many {n : Nat} {p : Nat → α → Prop} (h : ∀ i, i < n → ∃ x, p i x) : ∃ xs : List α, xs.length = n ∧ ∀ i x, xs[i]? = some x → p i x := by
 induction n with
 | zero => exact ⟨[], rfl, fun i x h => (by simp at h)⟩
 | succ n ih =>
  obtain ⟨xs, h1, h2⟩ := ih fun i hi => h i (by omega)
  obtain ⟨x, hx⟩ := h n (by omega)
  refine ⟨xs ++ [x], by simp [h1], fun i y hy => ?_⟩
  by_cases hi : i < n
  ·rw [List.getElem?_append_left (by omega)] at hy; exact h2 i y hy
  ·rw [List.getElem?_append_right (by omega)] at hy
   have : i = n := by
    rcases Nat.lt_or_ge (i - xs.length) 1 with h | h
    ·omega
    ·rw [List.getElem?_eq_none (by simpa using h)] at hy; cases hy
   subst this
   simp [h1] at hy; subst hy; exact hx
theorem cell_heap {w : World} {b o : Nat} {v : Value} (h : w.cell? ⟨b, o, none⟩ = some v) : ∃ arr t fz, w.heap[b]? = some (.cells arr t fz) ∧ arr[o]? = some v := by
 unfold World.cell? at h
 split at h
 ·rename_i arr t fz hb; exact ⟨arr, t, fz, hb, by simpa using h⟩
 ·simp at h
theorem opn_slice {t e : TypeId} {T : Ty α} {G : α → Prop} {sz : Nat} (ht : P.underlying t = some (.slice e)) (hc : P.cellsOf e = sz) (hz : 0 < sz) (hl : ∀ x, (T.cells x).length = sz) (hE : Opn enc P W base spare held e T G) :
  Opn enc P W base spare held t tSlc fun s => (s.len ≤ s.cap ∧ s.cap ≤ 9223372036854775807) ∧ ∃ xs, (∀ x ∈ xs, G x) ∧ RoP T s xs fun b => W.heap[b]? := by
 intro fuel cs x h
 rcases open_slice ht h with ⟨rfl, _⟩ | ⟨a, len, cap, m, n, D, Pl, rfl, hb, h1, h2, hm, _, hx⟩
 ·exact ⟨⟨none, 0, 0⟩, rfl, ⟨Nat.le_refl _, Nat.zero_le _⟩, [], (fun _ h => by cases h), rfl, .inl rfl⟩
 ·refine ⟨⟨some a, len, cap⟩, rfl, ⟨h1, Nat.le_trans h2 (Nat.le_of_ble_eq_true rfl)⟩, ?_⟩
  have hlm : len ≤ m := by rw [hm]; split <;> omega
  have each : ∀ i, i < len → ∃ y : α, G y ∧ ∀ k v, (T.cells y)[k]? = some v → W.cell? (a.add (i * sz + k)) = some v := by
   intro i hi
   obtain ⟨cs', g1, g2⟩ := hx i (by omega)
   obtain ⟨y, rfl, hy⟩ := hE _ _ _ g2
   rw [hc] at g1
   obtain ⟨_, _, g3⟩ := World.cells?_some g1
   refine ⟨y, hy, fun k v hv => ?_⟩
   have hk := (List.getElem?_eq_some_iff.1 hv).1
   rw [hl] at hk
   have := g3 k hk
   rw [hv] at this
   rw [add_add] at this
   exact this
  obtain ⟨xs, hlen, hxs⟩ := many each
  refine ⟨xs, ?_, hlen, ?_⟩
  ·intro x hx
   obtain ⟨i, hi, e⟩ := List.getElem_of_mem hx
   exact (hxs i x (by rw [List.getElem?_eq_getElem hi, e])).1
  ·cases xs with
   | nil => exact .inl rfl
   | cons x0 xs0 =>
    right
    obtain ⟨_, g⟩ := hxs 0 x0 rfl
    obtain ⟨b, o, sp⟩ := a
    have hlt : 0 < (T.cells x0).length := by rw [hl]; exact hz
    have g0 := g 0 _ (List.getElem?_eq_getElem hlt)
    have hsp : sp = none := by simpa [Addr.add] using World.cell?_spot g0
    subst hsp
    rw [add_at] at g0
    obtain ⟨arr, t', fz, hb, _⟩ := cell_heap g0
    refine ⟨b, o, arr, t', fz, rfl, hb, fun j v hj => ?_⟩
    obtain ⟨i, k, y, rfl, hk, hy, hv⟩ := flat_split hl _ _ _ hj
    have := (hxs i y hy).2 k v hv
    rw [add_at] at this
    rw [cell_of_blk hb] at this
    exact this
theorem opn_agg {t : TypeId} {fs : Array Field} {n : Nat} {C : α → List Value} {G : α → Prop} (ht : P.underlying t = some (.struct fs)) (hc : P.cellsOf t = n)
  (h : ∀ cs : List Value, cs.length = n → (∀ (i off ty sz : Nat), (∃ f, fs[i]? = some f ∧ f.offset = off ∧ f.type = ty) → P.cellsOf ty = sz → ∃ m x, DataW.trod enc P W base spare held m ty ((cs.drop off).take sz) = some x) → ∃ y, cs = C y ∧ G y) :
  Opn enc P W base spare held t (tAgg C) G := by
 intro fuel cs x hx
 obtain ⟨xs, m, _, _, hl, hxl, hf⟩ := DataW.trod_struct ht hx
 refine h cs (hl.trans hc) ?_
 rintro i off ty sz ⟨f, hf1, rfl, rfl⟩ rfl
 have := hf i f hf1
 have hi : i < fs.size := (Array.getElem?_eq_some_iff.1 hf1).1
 exact ⟨m, xs[i]'(by omega), by rw [this]; exact List.getElem?_eq_getElem _⟩
theorem dj {cs a b : List Value} {o k : Nat} (h : (cs.drop o).take k = a) (h2 : cs.drop (o + k) = b) : cs.drop o = a ++ b := by
 rw [← h, ← h2, ← List.drop_drop]; exact (List.take_append_drop _ _).symm
theorem dend {cs : List Value} {n : Nat} (h : cs.length = n) : cs.drop n = [] := List.drop_eq_nil_of_le (by omega)
theorem calls_of_cl {α : Type} {T : Ty α} {f : FuncId} {args : List Value} {w : World} {k : α → World → Prop} (h : cl P f args T w k) : Calls P f args.toArray w fun e w' => ∃ x, e = .returned (T.enc x) ∧ k x w' :=
 h.mono fun e w' h => by
  cases e with
  | returned v => obtain ⟨x, rfl, h⟩ := h; exact ⟨x, rfl, h⟩
  | _ => exact h.elim
theorem arg_one {t : TypeId} {T : Ty α} {G : α → Prop} {v : Value} {d : DataW H} {ps : List MemPlace} (hO : Opn enc P W base spare held t T G) (h : DataW.Trod enc P W base spare held t v d ps) : ∃ y, v.cells.toList = T.cells y ∧ G y := by
 obtain ⟨m, hm⟩ := h
 exact hO _ _ _ hm
theorem one_of {v : Value} {T : Ty α} {y : α} (h : v.cells.toList = T.cells y) (h1 : v.cells = #[v]) (h2 : T.cells y = [T.enc y]) : v = T.enc y := by
 rw [h1, h2] at h; simpa using h
end
end Go.Proofs.YtehclfjjjiiieaaGreat.Cf
namespace Go.Proofs.YtehclfjjjiiieaaGreat.Cf
set_option linter.unusedSimpArgs false
set_option linter.unusedVariables false
open Go Go.RowKit
section
variable {W w w' : World} {l : List Assn}
theorem St.grown (H : St W l w) (hb : Below w.heap.size w w') : St W l w' := by
 obtain ⟨I, h, a, c1, c2, hl⟩ := H.mem
 have old : ∀ b o, w.heap[b]? = some o → w'.heap[b]? = some o := fun b o e => by
  rw [hb.block b (Array.getElem?_eq_some_iff.1 e).1]; exact e
 exact ⟨hb.os.trans H.os, hb.tape.trans H.tape, hb.output.trans H.output, Nat.le_trans H.size hb.size, I, h, a, fun b o e => old b o (c1 b o e), fun b o e => old b o (c2 b o e), hl⟩
theorem St.made {g : Nat} {o : Obj} (H : St W l w) (hb : Below w.heap.size w w') (hg : w.heap.size ≤ g) (ho : w'.heap[g]? = some o) : St W (blk g o :: l) w' := by
 have H' := H.grown hb
 obtain ⟨I, h, a, c1, c2, hl⟩ := H.mem
 have hI : I g = none := by
  cases e : I g with
  | none => rfl
  | some u => have := (Array.getElem?_eq_some_iff.1 (c1 _ _ e)).1; omega
 have hh : h g = none := by
  cases e : h g with
  | none => rfl
  | some u => have := (Array.getElem?_eq_some_iff.1 (c2 _ _ e)).1; omega
 have old : ∀ b o, w.heap[b]? = some o → w'.heap[b]? = some o := fun b o e => by
  rw [hb.block b (Array.getElem?_eq_some_iff.1 e).1]; exact e
 refine ⟨H'.os, H'.tape, H'.output, H'.size, I, fun x => if x = g then some o else h x, ?_, fun b o e => old b o (c1 b o e), ?_, fun x => if x = g then some o else none, h, ?_, ?_, ?_, ?_, hl⟩
 ·intro x
  by_cases e : x = g
  ·subst e; exact .inl hI
  ·simp only [e, if_false]; exact a x
 ·intro x v hv
  by_cases e : x = g
  ·subst e; simp at hv; subst hv; exact ho
  ·simp only [e, if_false] at hv; exact old _ _ (c2 x v hv)
 ·intro x
  by_cases e : x = g
  ·right; rw [e]; exact hh
  ·left; simp [e]
 ·intro x v hv
  by_cases e : x = g <;> simp [e] at hv ⊢; exact hv
 ·intro x v hv
  have : x ≠ g := by intro e; rw [e, hh] at hv; cases hv
  simp [this, hv]
 ·show (fun x => if x = g then some o else none) g = some o
  simp
theorem St.ownsRow {α : Type} {T : Ty α} {e : TypeId} {sz n : Nat} {v : Value} {xs : List α} (hl : ∀ x, (T.cells x).length = sz) (hn : n = xs.length) (H : St W l w) (hb : Below w.heap.size w w')
  (ho : w'.ownsRow w.heap.size e sz v n (xs.flatMap T.cells)) : ∃ s : Slc, v = tSlc.enc s ∧ St W (row T e sz s xs :: l) w' := by
 obtain ⟨hlen, ⟨rfl, h0⟩ | ⟨g, cap, cur, rfl, hg, hh, h1, h2, h3, h4⟩⟩ := ho
 ·have : xs = [] := List.eq_nil_of_length_eq_zero (by omega)
  subst this
  exact ⟨nilS, rfl, row_nil T e sz (H.grown hb)⟩
 ·refine ⟨⟨some ⟨g, 0, none⟩, n, cap⟩, rfl, ?_⟩
  refine row_shut (rest := cur.toList.drop (n * sz)) rfl hn h1 ?_ ?_
  ·simp only [List.length_drop, Array.length_toList, h3, Nat.sub_mul]
   exact Nat.le_refl _
  ·have := H.made hb hg hh
   have e1 : xs.flatMap T.cells ++ cur.toList.drop (n * sz) = cur.toList := by rw [← h4, List.take_append_drop]
   rw [e1]
   simpa [cel] using this
end
end Go.Proofs.YtehclfjjjiiieaaGreat.Cf
namespace Go.Proofs.YtehclfjjjiiieaaGreat.Cf
set_option linter.unusedSimpArgs false
set_option linter.unusedVariables false
open Go Go.RowKit
section
variable {W w w' : World} {l l' : List Assn} {A B : Assn} {α β : Type} {T : Ty α} {U : Ty β} {φ ψ : PMap → Prop}
def Know (l : List Assn) (φ : PMap → Prop) : Prop := ∀ I h, Seps l I h → φ I
theorem Know.here {m : ∀ {I I' : PMap}, PMap.le I I' → φ I → φ I'} : Know (ever φ m :: l) φ := fun _ _ ⟨_, _, _, _, _, ha, _⟩ => ha
theorem Know.tail (k : Know l φ) : Know (A :: l) φ := fun I _ ⟨_, h2, _, _, _, _, hl⟩ => k I h2 hl
theorem Know.imp (k : Know l φ) (h : ∀ I, φ I → ψ I) : Know l ψ := fun I q hl => h I (k I q hl)
theorem Know.app (k : Know l φ) : ∀ l' : List Assn, Know (l' ++ l) φ
 | [] => k
 | _ :: l' => (Know.app k l').tail
theorem Know.and (k : Know l φ) (k' : Know l ψ) : Know l fun I => φ I ∧ ψ I := fun I q hl => ⟨k I q hl, k' I q hl⟩
theorem St.know {m : ∀ {I I' : PMap}, PMap.le I I' → φ I → φ I'} (k : Know l φ) (H : St W l w) : St W (ever φ m :: l) w :=
 H.imp fun I h hl => ⟨fun _ => none, h, fun _ => .inl rfl, fun _ _ h => (by cases h), PMap.le_refl _, k I h hl, hl⟩
theorem Know.everI (k : Know l φ) (H : St W l w) : ∃ I : PMap, (∀ b o, I b = some o → w.heap[b]? = some o) ∧ φ I := by
 obtain ⟨I, h, a, b, c, hl⟩ := H.mem
 exact ⟨I, b, k I h hl⟩
theorem St.ro {s : Slc} {xs : List α} (k : Know l (RoP T s xs)) (H : St W l w) : St W (ro T s xs :: l) w := H.know (m := RoP.mono) k
theorem Know.len {s : Slc} {xs : List α} (k : Know l (RoP T s xs)) (H : St W l w) : s.len = xs.length := ro_len (H.ro k)
theorem Know.ix {sz : Nat} {s : Slc} {xs : List α} {i : Int} (k : Know l (RoP T s xs)) (H : St W l w) (h0 : 0 ≤ i) (h1 : i < xs.length) : ∃ a, IxA s sz i a := ro_ix (H.ro k) h0 h1
theorem Know.rd {sz : Nat} {s : Slc} {xs : List α} {i : Int} {a : Addr} {x : α} (k : Know l (RoP T s xs)) (hl : ∀ x, (T.cells x).length = sz) (ha : IxA s sz i a) (hx : xs[i.toNat]? = some x) (H : St W l w) : Rd w a (T.cells x) := rd_ro hl ha hx (H.ro k)
theorem Know.fld {sz o : Nat} {s : Slc} {xs : List α} {i : Int} {a : Addr} {x : α} {y : β} (k : Know l (RoP T s xs)) (hl : ∀ x, (T.cells x).length = sz) (ha : IxA s sz i a) (hx : xs[i.toNat]? = some x) (hs : at_ (T.cells x) o (U.cells y).length = U.cells y)
  (H : St W l w) : RdAt U (a.add o) w y := fld_ro hl ha hx hs (H.ro k)
theorem Know.rdS {s : Slc} {xs : List α} (k : Know l (RoP T s xs)) (H : St W l w) : RdS T w s xs := RdO_ro (H.ro k)
theorem RoP.nil : RoP T nilS [] = fun _ => True := by funext I; simp [RoP, nilS]
theorem Know.nil : Know l (RoP T nilS []) := fun _ _ _ => ⟨rfl, .inl rfl⟩
theorem Know.below (k : Know l fun I => PMap.le (fun b => W.heap[b]?) I) (H : St W l w) : Below W.heap.size W w := St.below (H.know (m := fun h k => PMap.le_trans k h) k)
theorem Know.old {s : Slc} {xs : List α} (k : Know l fun I => PMap.le (fun b => W.heap[b]?) I) (h : RoP T s xs fun b => W.heap[b]?) : Know l (RoP T s xs) := k.imp fun _ hI => RoP.mono hI h
end
end Go.Proofs.YtehclfjjjiiieaaGreat.Cf
namespace Go.Proofs.YtehclfjjjiiieaaGreat.Cf
set_option linter.unusedSimpArgs false
set_option linter.unusedVariables false
open Go Go.RowKit
section
variable {W w w' : World} {l l' : List Assn} {A B : Assn} {α β : Type} {T : Ty α} {U : Ty β} {t : TypeId} {φ ψ : PMap → Prop}
theorem row_cap {sz : Nat} {s : Slc} {xs : List α} (H : St W (row T t sz s xs :: l) w) : s.len ≤ s.cap := by
 rcases row_open H with ⟨rfl, rfl, _⟩ | ⟨b, rest, _, _, h, _⟩
 ·exact Nat.le_refl _
 ·exact h
theorem RoP.sub {sz : Nat} {s r : Slc} {xs : List α} {i h m : Int} {I : PMap} (hl : ∀ x, (T.cells x).length = sz) (hs : Sub s sz i h m r) (hh : h ≤ xs.length) (k : RoP T s xs I) : RoP T r ((xs.take h.toNat).drop i.toNat) I := by
 obtain ⟨g1, g2, g3⟩ := sub_at hs
 obtain ⟨h0, h1, h2, h3, _⟩ := hs
 have hlen : ((xs.take h.toNat).drop i.toNat).length = (h - i).toNat := by rw [List.length_drop, List.length_take]; omega
 refine ⟨by rw [hlen, g1], ?_⟩
 by_cases e : m = i
 ·left
  exact List.eq_nil_of_length_eq_zero (by rw [hlen]; omega)
 ·rcases k.2 with rfl | ⟨b, o, arr, t', fz, k1, k2, k3⟩
  ·left; simp
  ·right
   refine ⟨b, o + i.toNat * sz, arr, t', fz, g3 b o k1 e, k2, fun j v hv => ?_⟩
   have e2 : xs.flatMap T.cells = (xs.take i.toNat).flatMap T.cells ++ (((xs.take h.toNat).drop i.toNat).flatMap T.cells ++ (xs.drop h.toNat).flatMap T.cells) := by
    have e3 : xs.take i.toNat = (xs.take h.toNat).take i.toNat := by rw [List.take_take, Nat.min_eq_left (by omega)]
    rw [e3, ← List.append_assoc, ← List.flatMap_append, List.take_append_drop, ← List.flatMap_append, List.take_append_drop]
   have e4 : ((xs.take i.toNat).flatMap T.cells).length = i.toNat * sz := by rw [flat_len hl, List.length_take]; congr 1; omega
   rw [Nat.add_assoc]
   refine k3 (i.toNat * sz + j) v ?_
   rw [e2, ← e4, List.getElem?_append_right (by omega), Nat.add_sub_cancel_left]
   rw [List.getElem?_append_left (List.getElem?_eq_some_iff.1 hv).1]; exact hv
theorem Know.sub {sz : Nat} {s r : Slc} {xs : List α} {i h m : Int} (k : Know l (RoP T s xs)) (hl : ∀ x, (T.cells x).length = sz) (hs : Sub s sz i h m r) (hh : h ≤ xs.length) : Know l (RoP T r ((xs.take h.toNat).drop i.toNat)) := k.imp fun _ => RoP.sub hl hs hh
theorem row_cut3 {sz : Nat} {s r : Slc} {xs : List α} {h : Int} (hl : ∀ x, (T.cells x).length = sz) (hs : Sub s sz 0 h h r) (hh : h ≤ xs.length) (H : St W (row T t sz s xs :: l) w) : r = ⟨s.a, h.toNat, h.toNat⟩ ∧ St W (row T t sz r (xs.take h.toNat) :: l) w := by
 obtain ⟨h0, h1, h2, h3, rfl⟩ := hs
 have e : (⟨if h.toNat = (0 : Int).toNat then s.a else s.a.map (·.add ((0 : Int).toNat * sz)), h.toNat - (0 : Int).toNat, h.toNat - (0 : Int).toNat⟩ : Slc) = ⟨s.a, h.toNat, h.toNat⟩ := by
  have : (fun x : Addr => x.add 0) = id := by funext x; simp [Addr.add]
  simp [this]
 refine ⟨e, ?_⟩
 rw [e]
 rcases row_open H with ⟨rfl, rfl, H0⟩ | ⟨b, rest, g1, g2, g3, g4, H⟩
 ·have : h.toNat = 0 := by simp at hh; omega
  rw [this]; exact row_nil T t sz H0
 ·refine row_shut (rest := (xs.drop h.toNat).flatMap T.cells ++ rest) g1 (by simp; omega) (Nat.le_refl _) (by simp) ?_
  rw [← List.append_assoc, ← List.flatMap_append, List.take_append_drop]; exact H
end
end Go.Proofs.YtehclfjjjiiieaaGreat.Cf
namespace Go.Proofs.YtehclfjjjiiieaaGreat.Cf
set_option linter.unusedSimpArgs false
set_option linter.unusedVariables false
open Go Go.RowKit Go.ChangeMaps
section
variable {W w w' : World} {l l' : List Assn} {A B : Assn} {α β : Type} {T : Ty α} {U : Ty β} {t : TypeId} {φ ψ : PMap → Prop} {k : IntKind}
theorem leastN {p : Nat → Prop} : ∀ n, p n → ∃ m, m ≤ n ∧ p m ∧ ∀ j, p j → m ≤ j := by
 intro n
 induction n using Nat.strongRecOn with
 | _ n ih =>
  intro h
  by_cases c : ∃ j, j < n ∧ p j
  ·obtain ⟨j, h1, h2⟩ := c
   obtain ⟨m, h3, h4, h5⟩ := ih j h1 h2
   exact ⟨m, by omega, h4, h5⟩
  ·exact ⟨n, Nat.le_refl n, h, fun j hj => Nat.le_of_not_lt fun hlt => c ⟨j, hlt, hj⟩⟩
theorem lp_n {σ : Type} {body : σ → World → (σ → World → Prop) → Prop} {s : σ} {w : World} (I : Nat → σ → World → Prop) (n : Nat) (h0 : I n s w)
  (h : ∀ n s w, I n s w → ∀ K, (∀ m s' w', m < n → I m s' w' → K s' w') → body s w K) : lp body s w := by
 classical
 have pick : ∀ s w, ∃ m, (∃ n, I n s w) → I m s w ∧ ∀ j, I j s w → m ≤ j := by
  intro s w
  by_cases c : ∃ n, I n s w
  ·obtain ⟨n, hn⟩ := c
   obtain ⟨m, _, h1, h2⟩ := leastN (p := fun n => I n s w) n hn
   exact ⟨m, fun _ => ⟨h1, h2⟩⟩
  ·exact ⟨0, fun hc => absurd hc c⟩
 refine ⟨fun s w => ∃ n, I n s w, fun s w => (pick s w).choose, ⟨n, h0⟩, fun s w hI => ?_⟩
 obtain ⟨h1, h2⟩ := (pick s w).choose_spec hI
 refine h _ s w h1 _ fun m s' w' hm hI' => ⟨⟨m, hI'⟩, ?_⟩
 exact Nat.lt_of_le_of_lt (((pick s' w').choose_spec ⟨m, hI'⟩).2 m hI') hm
structure Way {α : Type} (T : Ty α) (k : IntKind) (arr : Array MapEntry) (c : Nat) (es : List (Int × α)) (left : List (Int × α)) (cur : Option (Int × α)) (since : Nat) (seen : Array Nat) (c0 : Nat) : Prop where
 reps : Reps T k arr es
 born : Born arr c
 dup : (es.map (·.1)).Nodup
 hsince : ∀ x ∈ arr.toList, x.born < since
 le : since ≤ c0
 le2 : since ≤ c
 hleft : (leftOf arr seen).toList.map (fun e => (e.key, e.val)) = left.map fun p => (.int k p.1, T.enc p.2)
 ldup : (left.map (·.1)).Nodup
 sub : ∀ p ∈ left, p ∈ es
 hcur : ∀ p, cur = some p → c0 = c ∧ ∃ e ∈ arr.toList, ∃ s, seen = Array.push s (MapEntry.born e) ∧ e.key = .int k p.1 ∧ e.val = T.enc p.2
def ranging (T : Ty α) (k : IntKind) (r it : Nat) (es left : List (Int × α)) (cur : Option (Int × α)) : Assn :=
 exA fun arr => exA fun c => exA fun since => exA fun seen => exA fun c0 => sepA [puA (Way T k arr c es left cur since seen c0), blk r (.map arr c), blk it (.mapIter (some r) since seen c0)]
theorem ranging_open {r it : Nat} {es left : List (Int × α)} {cur : Option (Int × α)} (H : St W (ranging T k r it es left cur :: l) w) : ∃ arr c since seen c0, Way T k arr c es left cur since seen c0 ∧ St W (blk r (.map arr c) :: blk it (.mapIter (some r) since seen c0) :: l) w := by
 obtain ⟨arr, H⟩ := H.ex
 obtain ⟨c, H⟩ := H.ex
 obtain ⟨since, H⟩ := H.ex
 obtain ⟨seen, H⟩ := H.ex
 obtain ⟨c0, H⟩ := H.ex
 have H := H.open_
 obtain ⟨h, H⟩ := St.pu (φ := Way T k arr c es left cur since seen c0) H
 exact ⟨arr, c, since, seen, c0, h, H⟩
theorem ranging_shut {r it : Nat} {es left : List (Int × α)} {cur : Option (Int × α)} {arr : Array MapEntry} {c since c0 : Nat} {seen : Array Nat} (h : Way T k arr c es left cur since seen c0) (H : St W (blk r (.map arr c) :: blk it (.mapIter (some r) since seen c0) :: l) w) : St W (ranging T k r it es left cur :: l) w :=
 St.toEx arr (St.toEx c (St.toEx since (St.toEx seen (St.toEx c0 (St.shut (l' := [puA _, blk r (.map arr c), blk it (.mapIter (some r) since seen c0)]) (St.toPu h H))))))
theorem ranging_done {r it : Nat} {es left : List (Int × α)} {cur : Option (Int × α)} (H : St W (ranging T k r it es left cur :: l) w) : St W (mapE T k r es :: l) w := by
 obtain ⟨arr, c, since, seen, c0, h, H⟩ := ranging_open H
 exact mapE_shut h.reps h.born h.dup ((H.front 1).drop)
theorem leftOf_nil (arr : Array MapEntry) : leftOf arr #[] = arr := by
 unfold leftOf
 exact Array.filter_eq_self.2 fun x hx => by simp
theorem rng_st {r : Nat} {es : List (Int × α)} {K : Addr → World → Prop} {m : Option Nat} (i : Nat) (H : St W l w) (hi : front i l = mapE T k r es :: l') (hm : m = some r)
  (hk : ∀ it w', St W (ranging T k r it es es none :: l') w' → K ⟨it, 0, none⟩ w') : rng m w K := by
 obtain ⟨arr, c, h1, hbo, h2, H⟩ := mapE_open (hi ▸ H.front i)
 subst hm
 refine ⟨arr, c, H.get, hk _ _ (ranging_shut ⟨h1, hbo, h2, hbo.1, Nat.le_refl c, Nat.le_refl c, by rw [leftOf_nil]; exact h1, h2, fun p hp => hp, fun p hp => by cases hp⟩ ?_)⟩
 exact (H.alloc _).front 1
theorem setBlock_put {r : Nat} {o u : Obj} (H : St W (blk r o :: l) w) : St W (blk r u :: l) (setBlock w r u) := H.put rfl rfl rfl rfl
theorem leftOf_push (arr : Array MapEntry) (seen : Array Nat) (b : Nat) : (leftOf arr (seen.push b)).toList = (leftOf arr seen).toList.filter fun x => x.born != b := by
 unfold leftOf
 simp only [Array.toList_filter, List.filter_filter]
 refine List.filter_congr fun x _ => ?_
 simp only [Array.contains_push, Bool.not_or]
 rw [Bool.and_comm]; rfl
theorem nodup_inj {γ δ : Type} {g : γ → δ} : ∀ {L : List γ}, (L.map g).Nodup → ∀ x ∈ L, ∀ y ∈ L, g x = g y → x = y
 | [], _, x, hx, _, _, _ => by cases hx
 | z :: L, h, x, hx, y, hy, e => by
  have h' := List.nodup_cons.1 h
  rcases List.mem_cons.1 hx with hx' | hx'
  ·rcases List.mem_cons.1 hy with hy' | hy'
   ·rw [hx', hy']
   ·exact absurd (List.mem_map.2 ⟨y, hy', by rw [← e, hx']⟩) h'.1
  ·rcases List.mem_cons.1 hy with hy' | hy'
   ·exact absurd (List.mem_map.2 ⟨x, hx', by rw [e, hy']⟩) h'.1
   ·exact nodup_inj h'.2 x hx' y hy' e
theorem left_step {arr : Array MapEntry} {seen : Array Nat} {left : List (Int × α)} {e : MapEntry} {p : Int × α} (hb : (arr.toList.map (·.born)).Nodup) (hd : (left.map (·.1)).Nodup) (hl : (leftOf arr seen).toList.map (fun e => (e.key, e.val)) = left.map fun p => (.int k p.1, T.enc p.2))
  (he : e ∈ (leftOf arr seen).toList) (e1 : e.key = .int k p.1) :
  (leftOf arr (seen.push e.born)).toList.map (fun e => (e.key, e.val)) = (left.filter fun q => q.1 != p.1).map fun p => (.int k p.1, T.enc p.2) := by
 rw [leftOf_push]
 have hsub : (leftOf arr seen).toList.Sublist arr.toList := by unfold leftOf; rw [Array.toList_filter]; exact List.filter_sublist
 have hbn : ((leftOf arr seen).toList.map (·.born)).Nodup := hb.sublist (hsub.map _)
 generalize (leftOf arr seen).toList = A at hl he hbn
 have hkeys : A.map (·.key) = left.map fun p => Value.int k p.1 := by
  have := congrArg (List.map Prod.fst) hl
  simpa [List.map_map, Function.comp_def] using this
 have hkn : (A.map (·.key)).Nodup := by
  rw [hkeys]
  have e : (left.map fun p => Value.int k p.1) = (left.map (·.1)).map (Value.int k) := by simp
  rw [e]
  exact List.Pairwise.map _ (fun a b h e => h (by injection e)) hd
 have h1 : (A.filter fun x => x.born != e.born) = A.filter ((fun kv : Value × Value => RowKit.intOf kv.1 != p.1) ∘ fun x => (x.key, x.val)) := by
  refine List.filter_congr fun x hx => ?_
  have : x.key ∈ A.map (·.key) := List.mem_map.2 ⟨x, hx, rfl⟩
  rw [hkeys] at this
  obtain ⟨q, hq, eq⟩ := List.mem_map.1 this
  have e2 : RowKit.intOf x.key = q.1 := by rw [← eq]; rfl
  show (x.born != e.born) = (RowKit.intOf x.key != p.1)
  rw [e2, Bool.eq_iff_iff, bne_iff_ne, bne_iff_ne]
  constructor
  ·intro h hqp
   have : x = e := nodup_inj hkn x hx e he (by rw [← eq, e1, hqp])
   exact h (by rw [this])
  ·intro h hbb
   have : x = e := nodup_inj hbn x hx e he hbb
   rw [this, e1] at eq
   injection eq with _ eq
   exact h eq
 rw [h1, ← List.filter_map, hl, List.filter_map]
 rfl
theorem nxt_st {r it : Nat} {es left : List (Int × α)} {cur : Option (Int × α)} {K : Option (Value × Value) → World → Prop} {a : Addr} (i : Nat) (H : St W l w) (hi : front i l = ranging T k r it es left cur :: l') (ha : a = ⟨it, 0, none⟩)
  (h0 : left = [] → St W (ranging T k r it es left cur :: l') w → K none w)
  (h1 : ∀ p ∈ left, ∀ w', St W (ranging T k r it es (left.filter fun q => q.1 != p.1) (some p) :: l') w' → K (some (.int k p.1, T.enc p.2)) w') : nxt a w K := by
 have H0 : St W (ranging T k r it es left cur :: l') w := hi ▸ H.front i
 obtain ⟨arr, c, since, seen, c0, h, H1⟩ := ranging_open H0
 have hb := H1.get
 have hr := (H1.front 1).get
 refine ⟨it, r, since, seen, c0, arr, c, ha, hr, hb, h.hsince, h.le, fun hz => h0 ?_ H0, fun e he w1 hw1 => ?_⟩
 ·have hn : (leftOf arr seen).toList = [] := by
   apply List.eq_nil_of_length_eq_zero
   simpa using hz
  have hl := h.hleft
  rw [hn] at hl
  cases hleft : left with
  | nil => rfl
  | cons p q => rw [hleft] at hl; cases hl
 ·have hem : e ∈ arr.toList := by
   unfold leftOf at he
   simp at he ⊢
   exact he.1
  have hmem : (e.key, e.val) ∈ (leftOf arr seen).toList.map fun e => (e.key, e.val) := List.mem_map.2 ⟨e, he, rfl⟩
  rw [h.hleft] at hmem
  obtain ⟨p, hp, ep⟩ := List.mem_map.1 hmem
  have e1 : e.key = .int k p.1 := (Prod.mk.inj ep).1.symm
  have e2 : e.val = T.enc p.2 := (Prod.mk.inj ep).2.symm
  rw [e1, e2]
  have H2 : St W (blk r (.map arr c) :: blk it (.mapIter (some r) since seen c0) :: l') w1 := by
   rcases hw1 with rfl | rfl
   ·exact H1
   ·exact H1.drew
  refine h1 p hp _ (ranging_shut (arr := arr) (c := c) (since := since) (seen := seen.push e.born) (c0 := c) ⟨h.reps, h.born, h.dup, h.hsince, h.le2, h.le2, ?_, ?_, fun q hq => h.sub q (List.mem_filter.1 hq).1, fun q hq => ?_⟩ ((setBlock_put (H2.front 1)).front 1))
  ·exact left_step h.born.2 h.ldup h.hleft he e1
  ·exact h.ldup.sublist (List.filter_sublist.map _)
  ·cases hq
   exact ⟨rfl, e, hem, seen, rfl, e1, e2⟩
theorem ent_st {r it : Nat} {es left : List (Int × α)} {p : Int × α} {K : Int × α → Prop} {a : Addr} (i : Nat) (H : St W l w) (hi : front i l = ranging T k r it es left (some p) :: l') (ha : a = ⟨it, 0, none⟩) (hk : K p) : ex (Ent T k a w) K := by
 have H0 : St W (ranging T k r it es left (some p) :: l') w := hi ▸ H.front i
 obtain ⟨arr, c, since, seen, c0, h, H1⟩ := ranging_open H0
 have hb := H1.get
 have hr := (H1.front 1).get
 obtain ⟨rfl, e, he, s, rfl, e1, e2⟩ := h.hcur p rfl
 exact ⟨p, ⟨it, r, since, s, arr, c0, e, ha, hr, hb, he, h.born.2, e1, e2⟩, hk⟩
theorem big_out {f : β → Assn} {l1 l2 : List β} {e : β} (H : St W (sepA ((l1 ++ e :: l2).map f) :: l) w) : St W (f e :: sepA ((l1 ++ l2).map f) :: l) w := by
 have H := H.open_
 have hp : ((l1 ++ e :: l2).map f ++ l).Perm ((l1 ++ l2).map f ++ (f e :: l)) := by
  simp only [List.map_append, List.map_cons, List.append_assoc, List.cons_append]
  refine List.Perm.append_left _ ?_
  exact (List.perm_middle (l₁ := l2.map f) (a := f e) (l₂ := l)).symm
 exact (St.shut (H.perm hp)).front 1
theorem big_in {f : β → Assn} {l1 l2 : List β} {e : β} (H : St W (f e :: sepA ((l1 ++ l2).map f) :: l) w) : St W (sepA ((l1 ++ e :: l2).map f) :: l) w := by
 have H := (H.front 1).open_
 have hp : ((l1 ++ l2).map f ++ (f e :: l)).Perm ((l1 ++ e :: l2).map f ++ l) := by
  simp only [List.map_append, List.map_cons, List.append_assoc, List.cons_append]
  refine List.Perm.append_left _ ?_
  exact List.perm_middle
 exact St.shut (H.perm hp)
end
end Go.Proofs.YtehclfjjjiiieaaGreat.Cf
namespace Go.Proofs.YtehclfjjjiiieaaGreat.Cf
set_option linter.unusedSimpArgs false
set_option linter.unusedVariables false
open Go Go.RowKit
section
variable {W w w' : World} {l l' : List Assn} {A B : Assn} {α β : Type} {T : Ty α} {U : Ty β} {t : TypeId}
theorem mkS_st {sz by_ : Nat} {n : Int} {z : α} {K : Slc → World → Prop} (h0 : 0 ≤ n) (h1 : (by_ : Int) * n ≤ 281474976710656) (h2 : n ≤ 9223372036854775807) (H : St W l w)
  (hk : ∀ b w', St W (row T t sz ⟨some ⟨b, 0, none⟩, n.toNat, n.toNat⟩ (List.replicate n.toNat z) :: l) w' → K ⟨some ⟨b, 0, none⟩, n.toNat, n.toNat⟩ w') : mkS t T by_ z n n w K :=
 ⟨h0, Int.le_refl _, h1, h2, hk _ _ (row_new (by simp) (H.alloc _))⟩
theorem cpy_st {sz : Nat} {s b : Slc} {xs new : List α} {K : Nat → World → Prop} (hl : ∀ x, (T.cells x).length = sz) (H : St W (row T t sz s xs :: l) w) (hn : RdS T w b new) (he : new.length = xs.length)
  (hk : ∀ w', St W (row T t sz s new :: l) w' → K new.length w') : cpy T sz s b w K := by
 have hs := row_len H
 refine ⟨new, by rw [← hn.1, hs]; omega, ?_, ?_⟩
 ·exact ⟨rfl, hn.2⟩
 ·rcases row_open H with ⟨rfl, rfl, H0⟩ | ⟨b', rest, h2, h3, h4, h5, H⟩
  ·have : new = [] := List.length_eq_zero_iff.1 he
   subst this
   exact hk _ (row_nil T t sz H0)
  ·rw [h2]
   have hfl : (xs.flatMap T.cells).length = xs.length * sz := flat_len hl _
   have hnl : (new.flatMap T.cells).length = new.length * sz := flat_len hl _
   refine ⟨wr_cel H (by simp [hfl, he]), hk _ ?_⟩
   have := putc_cel (new.flatMap T.cells) 0 0 _ _ H (by simp [hfl, hnl, he])
   refine row_shut (rest := rest) h2 (by rw [he]; exact h3) h4 h5 ?_
   have e : splice (xs.flatMap T.cells ++ rest) (0 + 0) (new.flatMap T.cells) = new.flatMap T.cells ++ rest := by
    unfold splice
    simp only [Nat.zero_add, Nat.add_zero, List.take_zero, List.nil_append]
    rw [hnl, he, ← hfl, List.drop_left]
   rw [e] at this
   exact this
def See (sz : Nat) (l : List Assn) (T : Ty α) (s : Slc) (xs : List α) : Prop := ∀ (W : World) (l' : List Assn) (w : World), St W (l' ++ l) w →
 s.len = xs.length ∧ RdS T w s xs ∧ ∀ i : Int, 0 ≤ i → i < xs.length → ∃ a, IxA s sz i a ∧ a.spot = none ∧ ∀ x, xs[i.toNat]? = some x → Rd w a (T.cells x)
theorem See.ro {sz : Nat} {s : Slc} {xs : List α} (hl : ∀ x, (T.cells x).length = sz) (k : Know l (RoP T s xs)) : See sz l T s xs := fun W l' w H => by
 have H := H.ro (k.app l')
 refine ⟨ro_len H, RdO_ro H, fun i h0 h1 => ?_⟩
 obtain ⟨a, ha⟩ := ro_ix (sz := sz) (i := i) H h0 h1
 exact ⟨a, ha, ro_spot ha H, fun x hx => rd_ro hl ha hx H⟩
theorem See.row {sz : Nat} {s : Slc} {xs : List α} (hl : ∀ x, (T.cells x).length = sz) (i : Nat) (hi : front i l = row T t sz s xs :: l') : See sz l T s xs := fun W l1 w H => by
 have hp : (l1 ++ l).Perm (Cf.row T t sz s xs :: (l1 ++ l')) := ((front_perm i l).append_left l1).trans (by rw [hi]; exact List.perm_middle)
 have H := H.perm hp
 refine ⟨row_len H, RdO_row H, fun i h0 h1 => ?_⟩
 obtain ⟨a, ha⟩ := row_ix (sz := sz) (i := i) H h0 h1
 exact ⟨a, ha, row_spot ha H, fun x hx => rd_row hl ha hx H⟩
theorem See.app {sz : Nat} {s : Slc} {xs : List α} (k : See sz l T s xs) (l' : List Assn) : See sz (l' ++ l) T s xs := fun W l1 w H => k W (l1 ++ l') w (by rw [List.append_assoc]; exact H)
theorem See.tail {sz : Nat} {s : Slc} {xs : List α} (k : See sz l T s xs) : See sz (A :: l) T s xs := k.app [A]
theorem See.len {sz : Nat} {s : Slc} {xs : List α} (k : See sz l T s xs) (H : St W l w) : s.len = xs.length := (k W [] w H).1
theorem See.ix {sz : Nat} {s : Slc} {xs : List α} {i : Int} (k : See sz l T s xs) (H : St W l w) (h0 : 0 ≤ i) (h1 : i < xs.length) : ∃ a, IxA s sz i a := by
 obtain ⟨a, h, _⟩ := (k W [] w H).2.2 i h0 h1; exact ⟨a, h⟩
theorem ixa_eq {sz : Nat} {s : Slc} {i : Int} {a b : Addr} (h : IxA s sz i a) (k : IxA s sz i b) : a = b := by
 obtain ⟨c, hc, _, _, rfl⟩ := h
 obtain ⟨d, hd, _, _, rfl⟩ := k
 rw [hc] at hd; injection hd with hd; rw [hd]
theorem See.rd {sz : Nat} {s : Slc} {xs : List α} {i : Int} {a : Addr} {x : α} (k : See sz l T s xs) (ha : IxA s sz i a) (hx : xs[i.toNat]? = some x) (H : St W l w) : Rd w a (T.cells x) := by
 have hlt := (List.getElem?_eq_some_iff.1 hx).1
 have h0 : 0 ≤ i := by obtain ⟨_, _, h, _⟩ := ha; exact h
 obtain ⟨b, hb, _, h⟩ := (k W [] w H).2.2 i h0 (by omega)
 rw [ixa_eq ha hb]; exact h x hx
theorem See.fld {sz o : Nat} {s : Slc} {xs : List α} {i : Int} {a : Addr} {x : α} {y : β} (k : See sz l T s xs) (ha : IxA s sz i a) (hx : xs[i.toNat]? = some x) (hs : at_ (T.cells x) o (U.cells y).length = U.cells y)
  (H : St W l w) : RdAt U (a.add o) w y := by
 have hlt := (List.getElem?_eq_some_iff.1 hx).1
 have h0 : 0 ≤ i := by obtain ⟨_, _, h, _⟩ := ha; exact h
 obtain ⟨b, hb, hsp, h⟩ := (k W [] w H).2.2 i h0 (by omega)
 rw [ixa_eq ha hb]; exact Rd_sub (h x hx) hsp hs
theorem See.rdS {sz : Nat} {s : Slc} {xs : List α} (k : See sz l T s xs) (H : St W l w) : RdS T w s xs := (k W [] w H).2.1
theorem add_add {a : Addr} (h : a.spot = none) (m n : Nat) : (a.add m).add n = a.add (m + n) := by
 obtain ⟨b, o, s⟩ := a
 simp only at h
 subst h
 rw [add_at, add_at, add_at, Nat.add_assoc]
end
end Go.Proofs.YtehclfjjjiiieaaGreat.Cf
namespace Go.Proofs.YtehclfjjjiiieaaGreat.Cf
set_option linter.unusedSimpArgs false
set_option linter.unusedVariables false
open Go Go.RowKit
section
variable {W w w' : World} {l l' : List Assn} {α β : Type} {T : Ty α} {U : Ty β} {t : TypeId}
theorem splice_mid {A c D z : List Value} {o : Nat} (h : o + z.length ≤ c.length) : splice (A ++ (c ++ D)) (A.length + o) z = A ++ (splice c o z ++ D) := by
 unfold splice
 rw [List.take_length_add_append, Nat.add_assoc, List.drop_length_add_append, List.take_append_of_le_length (by omega), List.drop_append_of_le_length (by omega)]
 simp
theorem stf_row {sz o : Nat} {s : Slc} {xs : List α} {i : Int} {a : Addr} {x y : α} {z : β} {K : World → Prop} (hl : ∀ x, (T.cells x).length = sz) (ha : IxA s sz i a) (hx : xs[i.toNat]? = some x) (hy : splice (T.cells x) o (U.cells z) = T.cells y) (ho : o + (U.cells z).length ≤ sz)
  (H : St W (row T t sz s xs :: l) w) (hk : ∀ w', St W (row T t sz s (xs.set i.toNat y) :: l) w' → K w') : st U (a.add o) z w K := by
 obtain ⟨c, hc, h0, h1, rfl⟩ := ha
 rcases row_open H with ⟨rfl, rfl, H⟩ | ⟨b, rest, h2, h3, h4, h5, H⟩
 ·cases hc
 ·rw [h2] at hc; injection hc with hc; subst hc
  have hi : i.toNat < xs.length := by omega
  obtain ⟨_, rfl⟩ := List.getElem?_eq_some_iff.1 hx
  have htl : ((xs.take i.toNat).flatMap T.cells).length = i.toNat * sz := by rw [flat_len hl, List.length_take]; congr 1; omega
  have hd : xs.drop i.toNat = xs[i.toNat] :: xs.drop (i.toNat + 1) := List.drop_eq_getElem_cons hi
  have hxs : xs.flatMap T.cells ++ rest = (xs.take i.toNat).flatMap T.cells ++ (T.cells xs[i.toNat] ++ ((xs.drop (i.toNat + 1)).flatMap T.cells ++ rest)) := by
   have : xs.flatMap T.cells = (xs.take i.toNat).flatMap T.cells ++ (xs.drop i.toNat).flatMap T.cells := by rw [← List.flatMap_append, List.take_append_drop]
   rw [this, hd, List.flatMap_cons]; simp only [List.append_assoc]
  have hys : (xs.set i.toNat y).flatMap T.cells ++ rest = (xs.take i.toNat).flatMap T.cells ++ (T.cells y ++ ((xs.drop (i.toNat + 1)).flatMap T.cells ++ rest)) := by
   have : xs.set i.toNat y = xs.take i.toNat ++ y :: xs.drop (i.toNat + 1) := by rw [List.set_eq_take_append_cons_drop, if_pos hi]
   rw [this, List.flatMap_append, List.flatMap_cons]; simp only [List.append_assoc]
  rw [add_at, add_at]
  rw [hxs] at H
  have hcl := hl xs[i.toNat]
  have hle : 0 + i.toNat * sz + o + (U.cells z).length ≤ ((xs.take i.toNat).flatMap T.cells ++ (T.cells xs[i.toNat] ++ ((xs.drop (i.toNat + 1)).flatMap T.cells ++ rest))).length := by
   simp only [List.length_append, htl, hcl]; omega
  refine ⟨wr_cel H hle, hk _ ?_⟩
  have h6 := putc_cel (U.cells z) (0 + i.toNat * sz + o) 0 _ _ H (by simpa using hle)
  refine row_shut h2 (by simpa using h3) h4 h5 ?_
  rw [hys, ← hy]
  have e := splice_mid (A := (xs.take i.toNat).flatMap T.cells) (c := T.cells xs[i.toNat]) (D := (xs.drop (i.toNat + 1)).flatMap T.cells ++ rest) (z := U.cells z) (o := o) (by omega)
  rw [htl] at e
  rw [show 0 + i.toNat * sz + o + 0 = i.toNat * sz + o from by omega, e] at h6
  exact h6
end
end Go.Proofs.YtehclfjjjiiieaaGreat.Cf
namespace Go.Proofs.YtehclfjjjiiieaaGreat.Wire
open Go Go.Proofs.YtehclfjjjiiieaaGreat.Cf
set_option linter.unusedVariables false
set_option linter.unusedSimpArgs false
set_option maxRecDepth 100000
abbrev Val := S63
def isNaN (b : Nat) : Bool := decide (18437736874454810624 < 2 * b % 18446744073709551616)
def fb (b : Nat) : Nat := if isNaN b then 9221120237041090561 else b
theorem fb_fb (b : Nat) : fb (fb b) = fb b := by
 unfold fb
 cases h : isNaN b
 ·simp [h]
 ·have : isNaN 9221120237041090561 = true := by decide
  simp [this]
theorem fb_lt {b : Nat} (h : b < 18446744073709551616) : fb b < 18446744073709551616 := by unfold fb; split <;> omega
theorem fb_0 : fb 0 = 0 := by decide
def num (n : Nat) : List UInt8 := if n < 128 then [UInt8.ofNat n] else UInt8.ofNat (128 + n % 128) :: num (n / 128)
termination_by n
decreasing_by omega
theorem num_lt {n : Nat} (h : n < 128) : num n = [UInt8.ofNat n] := by rw [num, if_pos h]
theorem num_ge {n : Nat} (h : 128 ≤ n) : num n = UInt8.ofNat (128 + n % 128) :: num (n / 128) := by rw [num, if_neg (by omega)]
def rdNum : List UInt8 → Nat → Nat → Except Int (Nat × List UInt8)
 | [], _, _ => .error 22
 | c :: bs, k, acc =>
  if (k = 9 ∧ 1 < c.toNat) ∨ (0 < k ∧ c.toNat = 0) then .error 23
  else if c.toNat < 128 then .ok (acc + c.toNat % 128 * 128 ^ k, bs)
  else rdNum bs (k + 1) (acc + c.toNat % 128 * 128 ^ k)
theorem u8_toNat {n : Nat} (h : n < 256) : (UInt8.ofNat n).toNat = n := by simp; omega
theorem p9 {k : Nat} (h : k ≤ 9) : 128 ^ k = 1 ∨ 128 ^ k = 128 ∨ 128 ^ k = 16384 ∨ 128 ^ k = 2097152 ∨ 128 ^ k = 268435456 ∨ 128 ^ k = 34359738368 ∨ 128 ^ k = 4398046511104 ∨ 128 ^ k = 562949953421312 ∨ 128 ^ k = 72057594037927936 ∨ k = 9 ∧ 128 ^ k = 9223372036854775808 := by
 have : k = 0 ∨ k = 1 ∨ k = 2 ∨ k = 3 ∨ k = 4 ∨ k = 5 ∨ k = 6 ∨ k = 7 ∨ k = 8 ∨ k = 9 := by omega
 rcases this with rfl | rfl | rfl | rfl | rfl | rfl | rfl | rfl | rfl | rfl <;> simp
theorem p8 {k : Nat} (h : k ≤ 8) : 128 ^ k = 1 ∨ 128 ^ k = 128 ∨ 128 ^ k = 16384 ∨ 128 ^ k = 2097152 ∨ 128 ^ k = 268435456 ∨ 128 ^ k = 34359738368 ∨ 128 ^ k = 4398046511104 ∨ 128 ^ k = 562949953421312 ∨ 128 ^ k = 72057594037927936 := by
 have : k = 0 ∨ k = 1 ∨ k = 2 ∨ k = 3 ∨ k = 4 ∨ k = 5 ∨ k = 6 ∨ k = 7 ∨ k = 8 := by omega
 rcases this with rfl | rfl | rfl | rfl | rfl | rfl | rfl | rfl | rfl <;> simp
theorem k9 {n k : Nat} (hk : k ≤ 9) (hn : n * 128 ^ k < 18446744073709551616) (h : k = 9) : n < 2 := by
 subst h
 simp at hn; omega
theorem rdNum_num : ∀ (n k acc : Nat) (rest : List UInt8), k ≤ 9 → n * 128 ^ k < 18446744073709551616 → (1 ≤ n ∨ k = 0) → rdNum (num n ++ rest) k acc = .ok (acc + n * 128 ^ k, rest) := by
  intro n
  induction n using Nat.strongRecOn with
  | _ n ih =>
    intro k acc rest hk hn h0
    by_cases h : n < 128
    · rw [num_lt h]
      have ht : (UInt8.ofNat n).toNat = n := u8_toNat (by omega)
      simp only [List.cons_append, List.nil_append, rdNum, ht]
      rw [if_neg (by rintro (⟨h1, h2⟩ | ⟨h1, h2⟩)
                     · have := k9 hk hn h1; omega
                     · omega), if_pos h, Nat.mod_eq_of_lt h]
    · have h8 : k ≤ 8 := by
        rcases Nat.lt_or_ge 8 k with h9 | h9
        · have := k9 hk hn (by omega); omega
        · exact h9
      rw [num_ge (by omega)]
      have ht : (UInt8.ofNat (128 + n % 128)).toNat = 128 + n % 128 := u8_toNat (by omega)
      simp only [List.cons_append, rdNum, ht]
      rw [if_neg (by omega), if_neg (by omega)]
      have hp : (128 : Nat) ^ (k + 1) = 128 ^ k * 128 := Nat.pow_succ ..
      have hm : n * 128 ^ k = n / 128 * 128 ^ (k + 1) + n % 128 * 128 ^ k := by
        rw [hp, Nat.mul_comm (128 ^ k) 128, ← Nat.mul_assoc, ← Nat.add_mul]
        congr 1; omega
      have e : (128 + n % 128) % 128 = n % 128 := by omega
      rw [ih (n / 128) (by omega) (k + 1) _ rest (by omega) (by omega) (by omega), e]
      congr 2; omega
theorem fit {k m c : Nat} (h : k ≤ 8) (hm : m * (128 ^ k * 128) < 18446744073709551616) (hc : c < 128 ^ k * 128) : m * (128 ^ k * 128) + c < 18446744073709551616 := by
 have hD : ∃ D, D * (128 ^ k * 128) = 18446744073709551616 := by
  refine ⟨18446744073709551616 / (128 ^ k * 128), ?_⟩
  rcases p8 h with e | e | e | e | e | e | e | e | e <;> rw [e]
 obtain ⟨D, hD⟩ := hD
 rw [← hD] at hm ⊢
 generalize 128 ^ k * 128 = p at *
 have h1 : m < D := Nat.lt_of_mul_lt_mul_right hm
 have h2 : (m + 1) * p ≤ D * p := Nat.mul_le_mul_right _ h1
 rw [Nat.add_mul, Nat.one_mul] at h2
 omega
theorem rdNum_sound : ∀ (bs : List UInt8) (k acc n : Nat) (rest : List UInt8), k ≤ 9 → rdNum bs k acc = .ok (n, rest) → ∃ m, n = acc + m * 128 ^ k ∧ m * 128 ^ k < 18446744073709551616 ∧ (1 ≤ m ∨ k = 0) ∧ bs = num m ++ rest
 | [], k, acc, n, rest, hk, h => by simp [rdNum] at h
 | c :: bs, k, acc, n, rest, hk, h => by
  simp only [rdNum] at h
  split at h
  ·cases h
  ·rename_i h1
   have hc : c.toNat < 256 := c.toNat_lt
   split at h
   ·rename_i h2
    simp only [Except.ok.injEq, Prod.mk.injEq] at h
    obtain ⟨rfl, rfl⟩ := h
    refine ⟨c.toNat, by rw [Nat.mod_eq_of_lt h2], ?_, by omega, ?_⟩
    ·rcases p9 hk with e | e | e | e | e | e | e | e | e | ⟨e9, e⟩ <;> rw [e] <;> omega
    ·rw [num_lt h2]; simp
   ·rename_i h2
    have h8 : k ≤ 8 := by omega
    obtain ⟨m, e1, e2, e3, e4⟩ := rdNum_sound bs (k + 1) _ n rest (by omega) h
    have hp : (128 : Nat) ^ (k + 1) = 128 ^ k * 128 := Nat.pow_succ ..
    have hm : (m * 128 + c.toNat % 128) * 128 ^ k = m * 128 ^ (k + 1) + c.toNat % 128 * 128 ^ k := by
     rw [hp, Nat.mul_comm (128 ^ k) 128, ← Nat.mul_assoc, ← Nat.add_mul]
    refine ⟨m * 128 + c.toNat % 128, by rw [hm, e1]; omega, ?_, by omega, ?_⟩
    ·rw [hm, hp]
     rw [hp] at e2
     exact fit h8 e2 (by rw [Nat.mul_comm]; exact Nat.mul_lt_mul_of_pos_left (by omega) (Nat.pow_pos (by omega)))
    ·rw [num_ge (by omega), e4]
     have q1 : 128 + (m * 128 + c.toNat % 128) % 128 = c.toNat := by omega
     have q2 : (m * 128 + c.toNat % 128) / 128 = m := by omega
     rw [q1, q2]; simp
theorem num_len : ∀ (n k : Nat), k ≤ 9 → n * 128 ^ k < 18446744073709551616 → (num n).length + k ≤ 10 := by
 intro n
 induction n using Nat.strongRecOn with
 | _ n ih =>
  intro k hk hn
  by_cases h : n < 128
  ·rw [num_lt h]; simp; omega
  ·have h8 : k ≤ 8 := by
    rcases Nat.lt_or_ge 8 k with h9 | h9
    ·have := k9 hk hn (by omega); omega
    ·exact h9
   rw [num_ge (by omega)]
   have hp : (128 : Nat) ^ (k + 1) = 128 ^ k * 128 := Nat.pow_succ ..
   have hm : n * 128 ^ k = n / 128 * 128 ^ (k + 1) + n % 128 * 128 ^ k := by
    rw [hp, Nat.mul_comm (128 ^ k) 128, ← Nat.mul_assoc, ← Nat.add_mul]
    congr 1; omega
   have := ih (n / 128) (by omega) (k + 1) (by omega) (by omega)
   simp only [List.length_cons]; omega
def be : Nat → Nat → List UInt8
 | 0, _ => []
 | i + 1, n => UInt8.ofNat (n / 256 ^ i % 256) :: be i n
theorem be_len : ∀ i n, (be i n).length = i
 | 0, _ => rfl
 | i + 1, n => by simp [be, be_len i n]
def rdBe : Nat → Nat → List UInt8 → Except Int (Nat × List UInt8)
 | 0, acc, bs => .ok (acc, bs)
 | _ + 1, _, [] => .error 22
 | i + 1, acc, c :: bs => rdBe i (acc * 256 + c.toNat) bs
theorem mod_pow (n i : Nat) : n % 256 ^ (i + 1) = n / 256 ^ i % 256 * 256 ^ i + n % 256 ^ i := by
 rw [Nat.pow_succ, Nat.mod_mul, Nat.mul_comm (256 ^ i), Nat.add_comm]
theorem rdBe_be : ∀ (i acc n : Nat) (rest : List UInt8), rdBe i acc (be i n ++ rest) = .ok (acc * 256 ^ i + n % 256 ^ i, rest)
 | 0, acc, n, rest => by simp [be, rdBe, Nat.mod_one]
 | i + 1, acc, n, rest => by
  have ht : (UInt8.ofNat (n / 256 ^ i % 256)).toNat = n / 256 ^ i % 256 := u8_toNat (by omega)
  simp only [be, List.cons_append, rdBe, ht, rdBe_be i]
  rw [mod_pow, Nat.pow_succ, Nat.mul_comm (256 ^ i) 256, ← Nat.mul_assoc, Nat.add_mul]
  congr 2; omega
theorem be_add (q : Nat) : ∀ (i n j : Nat), i ≤ j → be i (q * 256 ^ j + n) = be i n
 | 0, _, _, _ => rfl
 | i + 1, n, j, h => by
  simp only [be]
  have e : (q * 256 ^ j + n) / 256 ^ i % 256 = n / 256 ^ i % 256 := by
   have hp : (256 : Nat) ^ j = 256 ^ i * (256 * 256 ^ (j - i - 1)) := by
    rw [← Nat.mul_assoc, ← Nat.pow_succ, ← Nat.pow_add]; congr 1; omega
   have h0 : 0 < 256 ^ i := Nat.pow_pos (by omega)
   rw [hp]
   have e2 : q * (256 ^ i * (256 * 256 ^ (j - i - 1))) + n = n + 256 ^ i * (q * 256 ^ (j - i - 1) * 256) := by
    rw [Nat.add_comm]; congr 1
    rw [Nat.mul_left_comm, Nat.mul_comm 256, Nat.mul_assoc]
   rw [e2, Nat.add_mul_div_left _ _ h0, Nat.add_mul_mod_self_right]
  rw [e, be_add q i n j (by omega)]
theorem rdBe_sound : ∀ (i acc m : Nat) (bs rest : List UInt8), rdBe i acc bs = .ok (m, rest) → ∃ n, n < 256 ^ i ∧ m = acc * 256 ^ i + n ∧ bs = be i n ++ rest
 | 0, acc, m, bs, rest, h => by
  simp only [rdBe, Except.ok.injEq, Prod.mk.injEq] at h
  exact ⟨0, by simp, by simp [h.1], by simp [be, h.2]⟩
 | i + 1, acc, m, [], rest, h => by simp [rdBe] at h
 | i + 1, acc, m, c :: bs, rest, h => by
  have hc : c.toNat < 256 := c.toNat_lt
  obtain ⟨n, h1, h2, h3⟩ := rdBe_sound i _ m bs rest h
  have h0 : 0 < 256 ^ i := Nat.pow_pos (by omega)
  refine ⟨c.toNat * 256 ^ i + n, ?_, ?_, ?_⟩
  ·rw [Nat.pow_succ, Nat.mul_comm (256 ^ i)]
   have : (c.toNat + 1) * 256 ^ i ≤ 256 * 256 ^ i := Nat.mul_le_mul_right _ (by omega)
   rw [Nat.add_mul] at this; omega
  ·rw [h2, Nat.pow_succ, Nat.mul_comm (256 ^ i) 256, ← Nat.mul_assoc, Nat.add_mul]; omega
  ·have e1 : (c.toNat * 256 ^ i + n) / 256 ^ i = c.toNat := by
    rw [Nat.add_comm, Nat.add_mul_div_right _ _ h0, Nat.div_eq_of_lt h1]; omega
   simp only [be, e1, be_add c.toNat i n i (Nat.le_refl i), List.cons_append, h3, Nat.mod_eq_of_lt hc]
   simp
def zig (i : Int) : Nat := if i < 0 then 2 * (-(i + 1)).toNat + 1 else 2 * i.toNat
def zag (n : Nat) : Int := if n % 2 = 1 then -((n / 2 : Nat) : Int) - 1 else (n / 2 : Nat)
theorem zag_zig (i : Int) : zag (zig i) = i := by
 unfold zag zig
 split <;> split <;> omega
theorem zig_zag (n : Nat) : zig (zag n) = n := by
 unfold zag zig
 split <;> split <;> omega
theorem zig_lt {i : Int} (h0 : -9223372036854775808 ≤ i) (h1 : i ≤ 9223372036854775807) : zig i < 18446744073709551616 := by
 unfold zig; split <;> omega
theorem zag_le {n : Nat} (h : n < 18446744073709551616) : -9223372036854775808 ≤ zag n ∧ zag n ≤ 9223372036854775807 := by
 unfold zag; split <;> omega
structure In (v : Val) : Prop where
 k0 : -9223372036854775808 ≤ v.Kind
 k1 : v.Kind ≤ 9223372036854775807
 u0 : 0 ≤ v.U
 u1 : v.U < 18446744073709551616
 i0 : -9223372036854775808 ≤ v.I
 i1 : v.I ≤ 9223372036854775807
 f : v.F < 18446744073709551616
def plainB (v : Val) : Bool :=
 if v.Kind = 1 then (v.I == 0 && v.F == 0) && v.S == []
 else if v.Kind = 2 then (v.U == 0 && v.F == 0) && v.S == []
 else if v.Kind = 3 then (v.U == 0 && v.I == 0) && v.S == []
 else if v.Kind = 4 then (v.U == 0 && v.I == 0) && v.F == 0
 else false
def okV (v : Val) : Int := if plainB v = false then 21 else if v.S.length > 1000 then 24 else 0
def enc1 (v : Val) : List UInt8 := UInt8.ofNat v.Kind.toNat ::
 (if v.Kind = 1 then num v.U.toNat else if v.Kind = 2 then num (zig v.I) else if v.Kind = 3 then be 8 (fb v.F) else num v.S.length ++ v.S)
def canon (v : Val) : Val := { v with F := fb v.F }
def dec1 : List UInt8 → Except Int (Val × List UInt8)
 | [] => .error 22
 | c :: bs =>
  if c.toNat = 1 then match rdNum bs 0 0 with
   | .error e => .error e
   | .ok (n, r) => .ok (⟨1, n, 0, 0, []⟩, r)
  else if c.toNat = 2 then match rdNum bs 0 0 with
   | .error e => .error e
   | .ok (n, r) => .ok (⟨2, 0, zag n, 0, []⟩, r)
  else if c.toNat = 3 then match rdBe 8 0 bs with
   | .error e => .error e
   | .ok (n, r) => if fb n ≠ n then .error 25 else .ok (⟨3, 0, 0, n, []⟩, r)
  else if c.toNat = 4 then match rdNum bs 0 0 with
   | .error e => .error e
   | .ok (n, r) => if 1000 < n then .error 24 else if r.length < n then .error 22 else .ok (⟨4, 0, 0, 0, r.take n⟩, r.drop n)
  else .error 21
theorem okV_kind {v : Val} (h : okV v = 0) : (v.Kind = 1 ∧ v.I = 0 ∧ v.F = 0 ∧ v.S = []) ∨ (v.Kind = 2 ∧ v.U = 0 ∧ v.F = 0 ∧ v.S = []) ∨ (v.Kind = 3 ∧ v.U = 0 ∧ v.I = 0 ∧ v.S = []) ∨ (v.Kind = 4 ∧ v.U = 0 ∧ v.I = 0 ∧ v.F = 0 ∧ v.S.length ≤ 1000) := by
 unfold okV at h
 split at h
 ·simp at h
 ·rename_i hp
  split at h
  ·simp at h
  ·rename_i hl
   unfold plainB at hp
   split at hp
   ·simp at hp; exact .inl ⟨by assumption, hp.1, hp.2.1, hp.2.2⟩
   ·split at hp
    ·simp at hp; exact .inr (.inl ⟨by assumption, hp.1, hp.2.1, hp.2.2⟩)
    ·split at hp
     ·simp at hp; exact .inr (.inr (.inl ⟨by assumption, hp.1, hp.2.1, hp.2.2⟩))
     ·split at hp
      ·simp at hp; exact .inr (.inr (.inr ⟨by assumption, hp.1, hp.2.1, hp.2.2, by omega⟩))
      ·simp at hp
theorem rdNum_ok {n : Nat} (h : n < 18446744073709551616) (rest : List UInt8) : rdNum (num n ++ rest) 0 0 = .ok (n, rest) := by
 have := rdNum_num n 0 0 rest (by omega) (by simpa using h) (.inr rfl)
 simpa using this
theorem dec1_enc1 {v : Val} (hi : In v) (h : okV v = 0) (rest : List UInt8) : dec1 (enc1 v ++ rest) = .ok (canon v, rest) := by
 obtain ⟨k, u, i, f, s⟩ := v
 rcases okV_kind h with ⟨h1, h2, h3, h4⟩ | ⟨h1, h2, h3, h4⟩ | ⟨h1, h2, h3, h4⟩ | ⟨h1, h2, h3, h4, h5⟩
 all_goals simp only at h1 h2 h3 h4
 ·subst h1; subst h2; subst h3; subst h4
  have hu := hi.u1; have hu0 := hi.u0
  simp only at hu hu0
  have e : rdNum (num u.toNat ++ rest) 0 0 = .ok (u.toNat, rest) := rdNum_ok (by omega) rest
  have e2 : ((u.toNat : Nat) : Int) = u := by omega
  simp [enc1, dec1, e, canon, fb_0, e2]
 ·subst h1; subst h2; subst h3; subst h4
  have e : rdNum (num (zig i) ++ rest) 0 0 = .ok (zig i, rest) := rdNum_ok (zig_lt hi.i0 hi.i1) rest
  simp [enc1, dec1, e, canon, fb_0, zag_zig]
 ·subst h1; subst h2; subst h3; subst h4
  have e : rdBe 8 0 (be 8 (fb f) ++ rest) = .ok (fb f, rest) := by
   have := fb_lt hi.f
   rw [rdBe_be, Nat.mod_eq_of_lt (by simpa using this)]; simp
  simp [enc1, dec1, e, canon, fb_fb]
 ·subst h1; subst h2; subst h3; subst h4
  simp only at h5
  have e : rdNum (num s.length ++ (s ++ rest)) 0 0 = .ok (s.length, s ++ rest) := rdNum_ok (by omega) _
  simp [enc1, dec1, e, canon, fb_0]
  rw [if_neg (by omega), if_neg (by omega)]
theorem num_len0 {n : Nat} (h : n < 18446744073709551616) : (num n).length ≤ 10 := by
 have := num_len n 0 (by omega) (by simpa using h); omega
theorem rdNum_ok2 {bs rest : List UInt8} {n : Nat} (h : rdNum bs 0 0 = .ok (n, rest)) : n < 18446744073709551616 ∧ bs = num n ++ rest := by
 obtain ⟨m, h1, h2, _, h3⟩ := rdNum_sound bs 0 0 n rest (by omega) h
 have : n = m := by simpa using h1
 subst this
 exact ⟨by simpa using h2, h3⟩
theorem dec1_sound {bs rest : List UInt8} {v : Val} (h : dec1 bs = .ok (v, rest)) : In v ∧ okV v = 0 ∧ canon v = v ∧ bs = enc1 v ++ rest := by
 cases bs with
 | nil => simp [dec1] at h
 | cons c bs =>
  simp only [dec1] at h
  split at h
  ·rename_i hc
   split at h
   ·cases h
   ·rename_i n r hr
    simp only [Except.ok.injEq, Prod.mk.injEq] at h
    obtain ⟨rfl, rfl⟩ := h
    obtain ⟨h1, rfl⟩ := rdNum_ok2 hr
    refine ⟨⟨by simp, by simp, by simp, by simp only; omega, by simp, by simp, by simp⟩, by simp [okV, plainB], by simp [canon, fb_0], ?_⟩
    obtain rfl : c = 1 := UInt8.toNat_inj.1 hc
    simp [enc1]
  ·split at h
   ·rename_i hc
    split at h
    ·cases h
    ·rename_i n r hr
     simp only [Except.ok.injEq, Prod.mk.injEq] at h
     obtain ⟨rfl, rfl⟩ := h
     obtain ⟨h1, rfl⟩ := rdNum_ok2 hr
     refine ⟨⟨by simp, by simp, by simp, by simp, (zag_le h1).1, (zag_le h1).2, by simp⟩, by simp [okV, plainB], by simp [canon, fb_0], ?_⟩
     obtain rfl : c = 2 := UInt8.toNat_inj.1 hc
     simp [enc1, zig_zag]
   ·split at h
    ·rename_i hc
     split at h
     ·cases h
     ·rename_i n r hr
      split at h
      ·cases h
      ·rename_i hf
       simp only [Except.ok.injEq, Prod.mk.injEq] at h
       obtain ⟨rfl, rfl⟩ := h
       obtain ⟨m, h1, h2, rfl⟩ := rdBe_sound 8 0 _ _ _ hr
       have : n = m := by simpa using h2
       subst this
       have hf : fb n = n := by simpa using hf
       refine ⟨⟨by simp, by simp, by simp, by simp, by simp, by simp, by simpa using h1⟩, by simp [okV, plainB], by simp [canon, hf], ?_⟩
       obtain rfl : c = 3 := UInt8.toNat_inj.1 hc
       simp [enc1, hf]
    ·split at h
     ·rename_i hc
      split at h
      ·cases h
      ·rename_i n r hr
       split at h
       ·cases h
       ·split at h
        ·cases h
        ·rename_i h5 h6
         simp only [Except.ok.injEq, Prod.mk.injEq] at h
         obtain ⟨rfl, rfl⟩ := h
         obtain ⟨h1, rfl⟩ := rdNum_ok2 hr
         have hl : (r.take n).length = n := by rw [List.length_take]; omega
         refine ⟨⟨by simp, by simp, by simp, by simp, by simp, by simp, by simp⟩, ?_, by simp [canon, fb_0], ?_⟩
         ·simp only [okV, plainB]; simp; omega
         ·obtain rfl : c = 4 := UInt8.toNat_inj.1 hc
          simp [enc1]; rw [Nat.min_eq_left (by omega)]
     ·cases h
theorem enc1_len {v : Val} (hi : In v) (h : okV v = 0) : (enc1 v).length ≤ 1011 := by
 rcases okV_kind h with ⟨h1, _⟩ | ⟨h1, _⟩ | ⟨h1, _⟩ | ⟨h1, _, _, _, h5⟩
 ·have := num_len0 (n := v.U.toNat) (by have := hi.u1; have := hi.u0; omega)
  simp [enc1, h1]; omega
 ·have := num_len0 (zig_lt hi.i0 hi.i1)
  simp [enc1, h1]; omega
 ·simp [enc1, h1, be_len]
 ·have := num_len0 (n := v.S.length) (by omega)
  simp [enc1, h1]; omega
end Go.Proofs.YtehclfjjjiiieaaGreat.Wire
namespace Go.Proofs.YtehclfjjjiiieaaGreat.Cf
set_option linter.unusedSimpArgs false
set_option linter.unusedVariables false
open Go Go.RowKit
theorem wr_u8 (n : Int) : IntKind.u8.wrap n = n % 256 := by simp [IntKind.wrap, IntKind.bits, IntKind.signed]
theorem wr_u64 (n : Int) : IntKind.u64.wrap n = n % 18446744073709551616 := by simp [IntKind.wrap, IntKind.bits, IntKind.signed]
theorem wr_i64 (n : Int) : IntKind.i64.wrap n = (n + 9223372036854775808) % 18446744073709551616 - 9223372036854775808 := by
 rw [IntKind.wrap_i64]
theorem wid_u64 (n : Int) (h0 : 0 ≤ n) (h1 : n < 2 ^ 64) : IntKind.u64.wrap n = n := by rw [wr_u64]; omega
theorem wid_u8 (n : Int) (h0 : 0 ≤ n) (h1 : n < 2 ^ 8) : IntKind.u8.wrap n = n := by rw [wr_u8]; omega
theorem or_low (k : IntKind) (j : Nat) (hj : j ≤ k.bits) (hk : ∀ n : Int, 0 ≤ n → n < 2 ^ j → k.wrap n = n) (i : Nat)
  (y x : Int) (hy₀ : 0 ≤ y) (hy : y < 2 ^ i) (hy₁ : y < 2 ^ j) (hx₀ : 0 ≤ x) (hx : x % 2 ^ i = 0) (hx₁ : x < 2 ^ j) : bits .or k y x = y + x := by
 have h := bits_join k j hj hk i x y hx₀ hx hx₁ hy₀ hy hy₁
 obtain ⟨a, rfl⟩ := Int.eq_ofNat_of_zero_le hx₀
 obtain ⟨b, rfl⟩ := Int.eq_ofNat_of_zero_le hy₀
 have ha : a < 2 ^ j := by exact_mod_cast hx₁
 have hb : b < 2 ^ j := by exact_mod_cast hy₁
 rw [(bits_nat k j hj hk a b ha hb).2] at h
 rw [(bits_nat k j hj hk b a hb ha).2, Nat.or_comm, h]
 omega
theorem and127 {x : Int} (h0 : 0 ≤ x) (h1 : x < 256) : bits .and .u8 x 127 = x % 128 := bits_mask .u8 8 (by decide) wid_u8 7 (by decide) x h0 h1
theorem and1 {x : Int} (h0 : 0 ≤ x) (h1 : x < 18446744073709551616) : bits .and .u64 x 1 = x % 2 := bits_mask .u64 64 (by decide) wid_u64 1 (by decide) x h0 h1
theorem or128 {x : Int} (h0 : 0 ≤ x) (h1 : x < 256) : bits .or .u8 x 128 = 128 + x % 128 := by
 obtain ⟨a, rfl⟩ := Int.eq_ofNat_of_zero_le h0
 have ha : a < 256 := by omega
 have key : ∀ a : Fin 256, bits .or .u8 ((a.1 : Nat) : Int) 128 = 128 + ((a.1 : Nat) : Int) % 128 := by decide +kernel
 exact key ⟨a, ha⟩
theorem ofInt_nat (a : Nat) (h : a < 18446744073709551616) : (BitVec.ofInt 64 (a : Int)).toNat = a := by
 rw [BitVec.ofInt_natCast, BitVec.toNat_ofNat]; exact Nat.mod_eq_of_lt (by omega)
theorem xor0_u64 {x : Int} (h0 : 0 ≤ x) (h1 : x < 18446744073709551616) : bits .xor .u64 x 0 = x := by
 obtain ⟨a, rfl⟩ := Int.eq_ofNat_of_zero_le h0
 show IntKind.u64.wrap ((BitVec.ofInt 64 (a : Int) ^^^ BitVec.ofInt 64 0).toNat : Int) = _
 have e : BitVec.ofInt 64 0 = 0#64 := rfl
 rw [e, BitVec.xor_zero, ofInt_nat a (by omega), wr_u64]; omega
theorem xorm_u64 {x : Int} (h0 : 0 ≤ x) (h1 : x < 18446744073709551616) : bits .xor .u64 x 18446744073709551615 = 18446744073709551615 - x := by
 obtain ⟨a, rfl⟩ := Int.eq_ofNat_of_zero_le h0
 show IntKind.u64.wrap ((BitVec.ofInt 64 (a : Int) ^^^ BitVec.ofInt 64 18446744073709551615).toNat : Int) = _
 have e : BitVec.ofInt 64 18446744073709551615 = BitVec.allOnes 64 := by decide
 rw [e, BitVec.xor_allOnes, BitVec.toNat_not, ofInt_nat a (by omega), wr_u64]; omega
theorem xor0_i64 {x : Int} (h0 : 0 ≤ x) (h1 : x < 9223372036854775808) : bits .xor .i64 x 0 = x := by
 obtain ⟨a, rfl⟩ := Int.eq_ofNat_of_zero_le h0
 show IntKind.i64.wrap ((BitVec.ofInt 64 (a : Int) ^^^ BitVec.ofInt 64 0).toNat : Int) = _
 have e : BitVec.ofInt 64 0 = 0#64 := rfl
 rw [e, BitVec.xor_zero, ofInt_nat a (by omega), wr_i64]; omega
theorem xorm_i64 {x : Int} (h0 : 0 ≤ x) (h1 : x < 9223372036854775808) : bits .xor .i64 x (-1) = -x - 1 := by
 obtain ⟨a, rfl⟩ := Int.eq_ofNat_of_zero_le h0
 show IntKind.i64.wrap ((BitVec.ofInt 64 (a : Int) ^^^ BitVec.ofInt 64 (-1)).toNat : Int) = _
 have e : BitVec.ofInt 64 (-1) = BitVec.allOnes 64 := by decide
 rw [e, BitVec.xor_allOnes, BitVec.toNat_not, ofInt_nat a (by omega), wr_i64]; omega
section
variable {W w w' : World} {l l' : List Assn} {α : Type} {T : Ty α} {t e : TypeId}
theorem apS_row {s : Slc} {r : List UInt8} {xs : List Int} {k : Slc → World → Prop} (i : Nat) (H : St W l w) (hi : front i l = row (tInt .u8) e 1 s xs :: l') (hb : xs.length + r.length ≤ 140737488355328)
  (hk : ∀ q w', St W (row (tInt .u8) e 1 q (xs ++ B r) :: l') w' → k q w') : apS e s r w k :=
 app_row (fun _ => rfl) (hi ▸ H.front i) (by rw [B_len]; omega) hk
theorem b2s_st {s : Slc} {r : List UInt8} {k : List UInt8 → Prop} (h : RdS (tInt .u8) w s (B r)) (hk : k r) : ex (B2S s w) k := ⟨r, h, hk⟩
theorem shift_i {b r0 : Int} {k : Int → Prop} (h : 0 ≤ b) (hk : k r0) : ex (Shift b r0) k := ⟨r0, ⟨h, rfl⟩, hk⟩
theorem lp_p {σ : Type} {body : σ → World → (σ → World → Prop) → Prop} {s : σ} {w : World} (I : σ → World → Prop) (μ : σ → Nat) (h0 : I s w)
  (h : ∀ s w, I s w → ∀ K : σ → World → Prop, (∀ s' w', I s' w' → μ s' < μ s → K s' w') → body s w K) : lp body s w :=
 lp_i I μ h0 fun s w hI => h s w hI _ fun s' w' h1 h2 => ⟨h1, h2⟩
end
end Go.Proofs.YtehclfjjjiiieaaGreat.Cf
namespace Go.Proofs.YtehclfjjjiiieaaGreat.Wire
open Go Go.Proofs.YtehclfjjjiiieaaGreat.Cf
set_option linter.unusedVariables false
set_option linter.unusedSimpArgs false
set_option maxRecDepth 100000
section
variable {W w : World} {l l' : List Assn}
abbrev TV := T63
theorem lenV : ∀ x, (TV.cells x).length = 5 := fun _ => rfl
theorem ord_self (d : Ieee.Datum) : d.order d = if d.isNaN then none else some .eq := by
 have c1 : ∀ x : Int, compare x x = .eq := fun x => Std.ReflCmp.compare_self
 have c2 : ∀ x : Nat, compare x x = .eq := fun x => Std.ReflCmp.compare_self
 cases d with
 | nan s t => rfl
 | infinity s => simp only [Ieee.Datum.order, c2]; rfl
 | number s m i => simp only [Ieee.Datum.order, c1]; rfl
theorem nan_cmp {f : Nat} : fcmp .neq f f = isNaN f := by
 have hs : FloatKind.f64.format.signWeight = 9223372036854775808 := by decide
 have hr : FloatKind.f64.format.infRung = 9218868437227405312 := by decide
 have hb : FloatKind.f64.format.binade = 4503599627370496 := by decide
 have e : 2 * f % 18446744073709551616 = 2 * (f % 9223372036854775808) := by omega
 unfold fcmp isNaN
 simp only [Ieee.Format.order, ord_self]
 rw [e]
 have h2 : (FloatKind.f64.format.read f).isNaN = decide (18437736874454810624 < 2 * (f % 9223372036854775808)) := by
  simp only [Ieee.Format.read, hs, hr, hb]
  by_cases h1 : f % 9223372036854775808 < 4503599627370496
  ·rw [if_pos h1]
   show false = _
   symm; rw [decide_eq_false_iff_not]; omega
  ·rw [if_neg h1]
   by_cases h2 : f % 9223372036854775808 < 9218868437227405312
   ·rw [if_pos h2]
    show false = _
    symm; rw [decide_eq_false_iff_not]; omega
   ·rw [if_neg h2]
    by_cases h3 : f % 9223372036854775808 = 9218868437227405312
    ·rw [if_pos h3]
     show false = _
     symm; rw [decide_eq_false_iff_not]; omega
    ·rw [if_neg h3]
     show true = _
     symm; rw [decide_eq_true_iff]; omega
 rw [h2]
 cases decide (18437736874454810624 < 2 * (f % 9223372036854775808)) <;> rfl
theorem inf_spec {f : Nat} {s : Int} (H : St W l w) : cl Tryz.prog 105 [.float .f64 f, .int .i64 s] tBool w fun _ w' => St W l w' := by
 refine F105_ok ?_
 unfold F105 F105_j1
 split
 ·refine F130_ok ?_
  unfold F130
  exact H
 ·split
  ·exact H
  ·exact H
theorem class_spec {f : Nat} (H : St W l w) : cl Tryz.prog 64 [.float .f64 f] (tInt .i64) w fun r w' => (r == 0) = isNaN f ∧ St W l w' := by
 refine F64_ok ?_
 unfold F64
 rw [nan_cmp]
 split
 ·rename_i h; exact ⟨by rw [h]; rfl, H⟩
 ·rename_i h
  have h : isNaN f = false := by simpa using h
  rw [h]
  split
  ·exact ⟨rfl, H⟩
  ·split
   ·exact ⟨rfl, H⟩
   ·refine cl_mono (inf_spec H) ?_
    intro r w H
    split
    ·exact ⟨rfl, H⟩
    ·refine cl_mono (inf_spec H) ?_
     intro r w H
     split
     ·exact ⟨rfl, H⟩
     ·split
      ·exact ⟨rfl, H⟩
      ·exact ⟨rfl, H⟩
theorem bits_spec {f : Nat} (H : St W l w) : cl Tryz.prog 94 [.float .f64 f] (tInt .u64) w fun r w' => r = (fb f : Nat) ∧ St W l w' := by
 refine F94_ok ?_
 unfold F94
 refine cl_mono (class_spec H) ?_
 rintro r w ⟨hr, H⟩
 rw [hr]
 unfold fb
 split
 ·refine F128_ok ?_
  unfold F128
  rw [if_pos (by rfl)]
  exact ⟨rfl, H⟩
 ·exact ⟨rfl, H⟩
theorem plain_spec {v : Val} (H : St W l w) : cl Tryz.prog 92 [TV.enc v] tBool w fun r w' => r = plainB v ∧ St W l w' := by
 refine F92_ok ?_
 unfold F92
 refine nw_st H fun b w H => ?_
 refine dr_st H fun w H => ?_
 refine ld_st (x := v.U) 0 H rfl rfl rfl ?_
 refine ld_st (x := v.I) 0 H rfl rfl rfl ?_
 refine ld_st (x := v.F) 0 H rfl rfl rfl ?_
 refine ld_st (x := v.S) 0 H rfl rfl rfl ?_
 refine ld_st (x := v.Kind) 0 H rfl rfl rfl ?_
 have hf : ((v.F : Int) == 0) = (v.F == 0) := by rw [Bool.eq_iff_iff]; simp
 rw [hf]
 have H := H.drop
 by_cases h1 : v.Kind = 1
 ·simp only [h1, beq_self_eq_true, if_true, plainB]; exact ⟨trivial, H⟩
 ·have e1 : (v.Kind == 1) = false := by simpa using h1
  by_cases h2 : v.Kind = 2
  ·simp only [h2, plainB, show ((2 : Int) == 1) = false from rfl, show ¬ (2 : Int) = 1 from by decide, beq_self_eq_true, if_true, if_false, Bool.false_eq_true]; exact ⟨trivial, H⟩
  ·have e2 : (v.Kind == 2) = false := by simpa using h2
   by_cases h3 : v.Kind = 3
   ·simp only [h3, plainB, show ((3 : Int) == 1) = false from rfl, show ((3 : Int) == 2) = false from rfl, show ¬ (3 : Int) = 1 from by decide, show ¬ (3 : Int) = 2 from by decide, beq_self_eq_true, if_true, if_false, Bool.false_eq_true]; exact ⟨trivial, H⟩
   ·have e3 : (v.Kind == 3) = false := by simpa using h3
    by_cases h4 : v.Kind = 4
    ·simp only [h4, plainB, show ((4 : Int) == 1) = false from rfl, show ((4 : Int) == 2) = false from rfl, show ((4 : Int) == 3) = false from rfl, show ¬ (4 : Int) = 1 from by decide, show ¬ (4 : Int) = 2 from by decide, show ¬ (4 : Int) = 3 from by decide, beq_self_eq_true, if_true, if_false, Bool.false_eq_true]; exact ⟨trivial, H⟩
    ·have e4 : (v.Kind == 4) = false := by simpa using h4
     simp only [e1, e2, e3, e4, h1, h2, h3, h4, plainB, if_false, Bool.false_eq_true]; exact ⟨trivial, H⟩
theorem valid_spec {v : Val} (H : St W l w) : cl Tryz.prog 57 [TV.enc v] (tInt .i64) w fun r w' => r = okV v ∧ St W l w' := by
 refine F57_ok ?_
 unfold F57
 refine nw_st H fun b w H => ?_
 refine vld_st (x := v) 0 H rfl ?_
 refine cl_mono (plain_spec H) ?_
 rintro r w ⟨rfl, H⟩
 unfold okV
 split
 ·rename_i h; rw [if_pos (by simpa using h)]; exact ⟨rfl, H.drop⟩
 ·rename_i h
  rw [if_neg (by simpa using h)]
  refine ld_st (x := v.S) 0 H rfl rfl rfl ?_
  split
  ·rename_i h; rw [if_pos (by simp at h; omega)]; exact ⟨rfl, H.drop⟩
  ·rename_i h; rw [if_neg (by simp at h; omega)]; exact ⟨rfl, H.drop⟩
theorem u8w {n : Int} {m : Nat} (h : n = m) : IntKind.u8.wrap n = ((UInt8.ofNat m).toNat : Int) := by rw [wr_u8, h]; simp
theorem num_spec {n : Nat} {s : Slc} {xs : List Int} (hn : n < 18446744073709551616) (hb : xs.length ≤ 100000000) (i : Nat) (H : St W l w) (hi : front i l = row (tInt .u8) 5 1 s xs :: l') :
  cl Tryz.prog 93 [tSlc.enc s, .int .u64 n] tSlc w fun r w' => St W (row (tInt .u8) 5 1 r (xs ++ B (num n)) :: l') w' := by
 have H : St W (row (tInt .u8) 5 1 s xs :: l') w := hi ▸ H.front i
 refine F93_ok ?_
 unfold F93
 refine lp_p (fun p w => ∃ (m : Nat) (ys : List UInt8), p.2 = m ∧ m < 18446744073709551616 ∧ m ≤ n ∧ num n = ys ++ num m ∧ St W (row (tInt .u8) 5 1 p.1 (xs ++ B ys) :: l') w) (fun p => p.2.toNat)
  ⟨n, [], rfl, hn, Nat.le_refl n, rfl, by simpa [B] using H⟩ ?_
 clear H hi
 rintro ⟨b, m⟩ w ⟨m, ys, rfl, hm, hmn, he, H⟩ K hK
 have hl : ys.length ≤ 10 := by
  have := congrArg List.length he
  rw [List.length_append] at this
  have := num_len0 hn
  omega
 unfold F93_l1
 split
 ·rename_i hc
  have hc : 128 ≤ m := by simp at hc; omega
  have e1 : bits .or .u8 (IntKind.u8.wrap (m : Int)) 128 = ((UInt8.ofNat (128 + m % 128)).toNat : Int) := by
   rw [wr_u8, or128 (by omega) (by omega), u8_toNat (by omega)]; omega
  simp only [e1]
  refine apl_row (fun _ => rfl) 0 H rfl (by simp [B_len]; omega) fun r w H => ?_
  refine shift_i (by omega) ?_
  have e2 : Int.fdiv (m : Int) (2 ^ (min (Int.toNat 7) IntKind.u64.bits)) = ((m / 128 : Nat) : Int) := by
   have : min (Int.toNat 7) IntKind.u64.bits = 7 := rfl
   rw [this, Int.fdiv_eq_ediv_of_nonneg _ (by decide)]
   omega
  rw [e2]
  refine hK _ _ ⟨m / 128, ys ++ [UInt8.ofNat (128 + m % 128)], rfl, by omega, by omega, by rw [he, num_ge hc]; simp, ?_⟩ (by simp only; omega)
  rw [B_app, ← List.append_assoc]; exact H
 ·rename_i hc
  have hc : m < 128 := by simp at hc; omega
  rw [u8w rfl]
  refine apl_row (fun _ => rfl) 0 H rfl (by simp [B_len]; omega) fun r w H => ?_
  rw [he, num_lt hc, B_app, ← List.append_assoc]; exact H
end
end Go.Proofs.YtehclfjjjiiieaaGreat.Wire
namespace Go.Proofs.YtehclfjjjiiieaaGreat.Wire
open Go Go.Proofs.YtehclfjjjiiieaaGreat.Cf
set_option linter.unusedVariables false
set_option linter.unusedSimpArgs false
set_option maxRecDepth 100000
def encs (vs : List Val) : List UInt8 := vs.flatMap enc1
def bad : List Val → Int
 | [] => 0
 | v :: vs => if okV v ≠ 0 then okV v else bad vs
def packE (vs : List Val) : Int := if 1000 < vs.length then 20 else bad vs
theorem encs_app (l m : List Val) : encs (l ++ m) = encs l ++ encs m := by simp [encs]
theorem encs_len : ∀ {vs : List Val}, (∀ v ∈ vs, In v) → (∀ v ∈ vs, okV v = 0) → (encs vs).length ≤ 1011 * vs.length
 | [], _, _ => by simp [encs]
 | v :: vs, hi, h => by
  have h1 := enc1_len (hi v (by simp)) (h v (by simp))
  have h2 := encs_len (vs := vs) (fun x hx => hi x (by simp [hx])) (fun x hx => h x (by simp [hx]))
  simp only [encs, List.flatMap_cons, List.length_append, List.length_cons] at *
  omega
theorem bad_app {l m : List Val} (h : ∀ v ∈ l, okV v = 0) : bad (l ++ m) = bad m := by
 induction l with
 | nil => rfl
 | cons v l ih =>
  have h1 := h v (by simp)
  simp only [List.cons_append, bad, h1]
  rw [if_neg (by simp)]
  exact ih fun x hx => h x (by simp [hx])
theorem bad_of {vs : List Val} (h : ∀ v ∈ vs, okV v = 0) : bad vs = 0 := by
 have := bad_app (l := vs) (m := []) h
 rw [List.append_nil] at this
 exact this
theorem fdiv_nat (n m : Nat) : Int.fdiv (n : Int) (2 ^ m) = ((n / 2 ^ m : Nat) : Int) := by
 rw [Int.fdiv_eq_ediv_of_nonneg _ (by exact_mod_cast Nat.zero_le _)]; push_cast; rfl
section
variable {W w : World} {l l' : List Assn}
theorem zig_put {x : Int} (h0 : -9223372036854775808 ≤ x) (h1 : x ≤ 9223372036854775807) :
  bits .xor .u64 (IntKind.u64.wrap ((IntKind.u64.wrap x) * 2 ^ (min ((1 : Int)).toNat IntKind.u64.bits))) (IntKind.u64.wrap (Int.fdiv x (2 ^ (min ((63 : Int)).toNat IntKind.i64.bits)))) = ((zig x : Nat) : Int) := by
 have m1 : min ((1 : Int)).toNat IntKind.u64.bits = 1 := rfl
 have m2 : min ((63 : Int)).toNat IntKind.i64.bits = 63 := rfl
 rw [m1, m2, Int.fdiv_eq_ediv_of_nonneg _ (by decide), wr_u64, wr_u64, wr_u64]
 unfold zig
 by_cases h : x < 0
 ·rw [if_pos h]
  have e : x / 2 ^ 63 % 18446744073709551616 = 18446744073709551615 := by omega
  rw [e, xorm_u64 (by omega) (by omega)]
  omega
 ·rw [if_neg h]
  have e : x / 2 ^ 63 % 18446744073709551616 = 0 := by omega
  rw [e, xor0_u64 (by omega) (by omega)]
  omega
theorem put_spec {v : Val} {s : Slc} {xs : List Int} (hI : In v) (hv : okV v = 0) (hb : xs.length ≤ 90000000) (i : Nat) (H : St W l w) (hi : front i l = row (tInt .u8) 5 1 s xs :: l') :
  cl Tryz.prog 58 [tSlc.enc s, TV.enc v] tSlc w fun r w' => St W (row (tInt .u8) 5 1 r (xs ++ B (enc1 v)) :: l') w' := by
 have H : St W (row (tInt .u8) 5 1 s xs :: l') w := hi ▸ H.front i
 clear hi
 have hk := okV_kind hv
 have hk1 : 1 ≤ v.Kind ∧ v.Kind ≤ 4 := by omega
 refine F58_ok ?_
 unfold F58
 refine nw_st H fun b w H => ?_
 refine ld_st (x := v.Kind) 0 H rfl rfl rfl ?_
 have e0 : IntKind.u8.wrap v.Kind = ((UInt8.ofNat v.Kind.toNat).toNat : Int) := u8w (by omega)
 rw [e0]
 refine apl_row (fun _ => rfl) 1 H rfl (by simp; omega) fun r w H => ?_
 refine ld_st (x := v.Kind) 1 H rfl rfl rfl ?_
 have H1 : St W (row (tInt .u8) 5 1 r (xs ++ B [UInt8.ofNat v.Kind.toNat]) :: cel b (TV.cells v) 64 :: l') w := H
 clear H e0
 have hfin : ∀ (q : Slc) (w : World) (ys : List UInt8), enc1 v = UInt8.ofNat v.Kind.toNat :: ys → ∀ {l : List Assn}, St W (row (tInt .u8) 5 1 q (xs ++ B [UInt8.ofNat v.Kind.toNat] ++ B ys) :: l) w → St W (row (tInt .u8) 5 1 q (xs ++ B (enc1 v)) :: l) w := by
  intro q w ys he l H
  rw [he]
  rw [List.append_assoc, ← B_app] at H
  exact H
 have hxl : (xs ++ B [UInt8.ofNat v.Kind.toNat]).length ≤ 100000000 := by simp [B_len]; omega
 split
 ·rename_i h
  have h : v.Kind = 1 := by simpa using h
  refine ld_st (x := v.U) 1 H1 rfl rfl rfl ?_
  have e : v.U = ((v.U.toNat : Nat) : Int) := by have := hI.u0; omega
  rw [e]
  refine cl_mono (num_spec (by have := hI.u1; omega) hxl 0 H1 rfl) ?_
  intro q w H
  exact hfin q w (num v.U.toNat) (by simp [enc1, h]) (H.front 1).drop |> fun H => H
 ·rename_i h
  have h1 : ¬ v.Kind = 1 := by simpa using h
  split
  ·rename_i h
   have h : v.Kind = 2 := by simpa using h
   refine ld_st (x := v.I) 1 H1 rfl rfl rfl ?_
   refine shift_i (by omega) ?_
   refine ld_st (x := v.I) 1 H1 rfl rfl rfl ?_
   refine shift_i (by omega) ?_
   rw [zig_put hI.i0 hI.i1]
   refine cl_mono (num_spec (zig_lt hI.i0 hI.i1) hxl 0 H1 rfl) ?_
   intro q w H
   have H := hfin q w (num (zig v.I)) (by simp [enc1, h]) H
   exact ((H.front 1).drop)
  ·rename_i h
   have h2 : ¬ v.Kind = 2 := by simpa using h
   split
   ·rename_i h
    have h : v.Kind = 3 := by simpa using h
    refine ld_st (x := v.F) 1 H1 rfl rfl rfl ?_
    refine cl_mono (bits_spec H1) ?_
    rintro q w ⟨rfl, H⟩
    have hn : fb v.F < 18446744073709551616 := fb_lt hI.f
    have hfin2 : ∀ (q : Slc) (w : World) {l : List Assn}, St W (row (tInt .u8) 5 1 q (xs ++ B [UInt8.ofNat v.Kind.toNat] ++ B (be 8 (fb v.F))) :: l) w → St W (row (tInt .u8) 5 1 q (xs ++ B (enc1 v)) :: l) w := fun q w => hfin q w (be 8 (fb v.F)) (by simp [enc1, h])
    clear hfin H1
    generalize fb v.F = n at hn hfin2
    refine lp_p (fun p w => ∃ (j : Nat) (ys : List UInt8), j ≤ 8 ∧ p.2 = 56 - 8 * (j : Int) ∧ ys.length = j ∧ be 8 n = ys ++ be (8 - j) n ∧ St W (row (tInt .u8) 5 1 p.1 (xs ++ B [UInt8.ofNat v.Kind.toNat] ++ B ys) :: cel b (TV.cells v) 64 :: l') w) (fun p => (p.2 + 8).toNat)
     ⟨0, [], by omega, by omega, rfl, rfl, by simpa [B] using H⟩ ?_
    clear H
    rintro ⟨q, i⟩ w ⟨j, ys, hj, hi, hyl, he, H⟩ K hK
    simp only at hi H
    subst hi
    unfold F58_l1
    split
    ·rename_i hc
     have hc : j ≤ 7 := by simp at hc; omega
     refine shift_i (by rw [wr_u64]; omega) ?_
     have m1 : min (IntKind.u64.wrap (56 - 8 * (j : Int))).toNat IntKind.u64.bits = 8 * (7 - j) := by
      have : IntKind.u64.bits = 64 := rfl
      rw [wr_u64, this]; omega
     have p1 : (2 : Nat) ^ (8 * (7 - j)) = 256 ^ (7 - j) := by rw [Nat.pow_mul]
     have e1 : IntKind.u8.wrap (Int.fdiv (n : Int) (2 ^ (min (IntKind.u64.wrap (56 - 8 * (j : Int))).toNat IntKind.u64.bits))) = ((UInt8.ofNat (n / 256 ^ (7 - j) % 256)).toNat : Int) := by
      rw [m1, fdiv_nat, p1, wr_u8]; simp
     rw [e1]
     refine apl_row (fun _ => rfl) 0 H rfl (by simp [B_len]; omega) fun r w H => ?_
     refine hK _ _ ⟨j + 1, ys ++ [UInt8.ofNat (n / 256 ^ (7 - j) % 256)], by omega, by simp only; rw [wr_i64]; omega, by simp [hyl], ?_, ?_⟩ (by simp only; rw [wr_i64]; omega)
     ·rw [he, show 8 - j = (7 - j) + 1 from by omega, show 8 - (j + 1) = 7 - j from by omega]
      simp [be]
     ·rw [B_app, ← List.append_assoc]; exact H
    ·rename_i hc
     have hc : j = 8 := by simp at hc; omega
     subst hc
     have e : be 8 n = ys := by rw [he]; simp [be]
     rw [← e] at H
     have H := hfin2 q w H
     exact ((H.front 1).drop)
   ·rename_i h
    have h3 : ¬ v.Kind = 3 := by simpa using h
    have h4 : v.Kind = 4 := by omega
    have hl : v.S.length ≤ 1000 := by
     rcases hk with h | h | h | h
     ·exact absurd h.1 h1
     ·exact absurd h.1 h2
     ·exact absurd h.1 h3
     ·exact h.2.2.2.2
    refine dr_st H1 fun w H => ?_
    refine ld_st (x := v.S) 1 H rfl rfl rfl ?_
    refine ld_st (x := v.S) 1 H rfl rfl rfl ?_
    have e : IntKind.u64.wrap (v.S.length : Int) = ((v.S.length : Nat) : Int) := by rw [wr_u64]; omega
    rw [e]
    refine cl_mono (num_spec (by omega) hxl 0 H rfl) ?_
    intro q w H
    refine ⟨rdat_cel tStr (H.front 1) rfl rfl, rdat_cel tStr (H.front 1) rfl rfl, ?_⟩
    have hn := num_len0 (n := v.S.length) (by omega)
    refine apS_row 0 H rfl (by simp [B_len]; omega) fun q w H => ?_
    refine ⟨rdat_cel tStr (H.front 1) rfl rfl, ?_⟩
    rw [List.append_assoc, ← B_app] at H
    have H := hfin q w (num v.S.length ++ v.S) (by simp [enc1, h4]) H
    exact ((H.front 1).drop)
theorem pack_spec {s : Slc} {vs : List Val} (hI : ∀ v ∈ vs, In v) (hn : vs.length ≤ 9000000000) (k : See 5 l TV s vs) (H : St W l w) :
  cl Tryz.prog 27 [tSlc.enc s] (tTup2 tSlc (tInt .i64)) w fun r w' => r.2 = packE vs ∧ (packE vs = 0 → St W (row (tInt .u8) 5 1 r.1 (B (encs vs)) :: l) w') ∧ (packE vs ≠ 0 → r.1 = nilS) ∧ St W l w' := by
 have hs := k.len H
 refine F27_ok ?_
 unfold F27
 rw [hs]
 split
 ·rename_i hc
  have hc : 1000 < vs.length := by simp at hc; omega
  have e : packE vs = 20 := if_pos hc
  refine ⟨e.symm, ?_, fun _ => rfl, H⟩
  intro h; rw [e] at h; cases h
 ·rename_i hc
  have hc : vs.length ≤ 1000 := by simp at hc; omega
  have e : packE vs = bad vs := if_neg (by omega)
  rw [e]
  refine lp_p (fun p w => 0 ≤ p.2 ∧ p.2 ≤ vs.length ∧ (∀ v ∈ vs.take p.2.toNat, okV v = 0) ∧ St W (row (tInt .u8) 5 1 p.1 (B (encs (vs.take p.2.toNat))) :: l) w) (fun p => (vs.length - p.2).toNat)
   ⟨Int.le_refl 0, by simp only; omega, by simp, row_nil (tInt .u8) 5 1 H⟩ ?_
  clear H
  rintro ⟨b, i⟩ w ⟨h0, h1, hok, H⟩ K hK
  simp only at h0 h1 hok H
  unfold F27_l1
  rw [hs]
  split
  ·rename_i hi
   have hi : i < vs.length := by simpa using hi
   have hx : vs[i.toNat]? = some vs[i.toNat] := List.getElem?_eq_getElem (by omega)
   have hm : vs[i.toNat] ∈ vs := List.getElem_mem _
   have ht : vs.take (i.toNat + 1) = vs.take i.toNat ++ [vs[i.toNat]] := by rw [List.take_succ_eq_append_getElem (by omega)]
   have hd : vs = vs.take i.toNat ++ vs[i.toNat] :: vs.drop (i.toNat + 1) := by
    conv => lhs; rw [← List.take_append_drop i.toNat vs]
    rw [List.drop_eq_getElem_cons (by omega)]
   have hbd : okV vs[i.toNat] ≠ 0 → bad vs = okV vs[i.toNat] := by
    intro h
    have hd2 := congrArg bad hd
    rw [hd2, bad_app hok]
    simp only [bad]
    exact if_pos h
   generalize vs[i.toNat] = v at hx hm ht hbd
   have hel := encs_len (vs := vs.take i.toNat) (fun x hx => hI x (List.mem_of_mem_take hx)) hok
   rw [List.length_take] at hel
   obtain ⟨a, ha⟩ := k.tail.ix (i := i) H h0 hi
   refine ex_i a ha ?_
   refine ex_i v (k.tail.rd ha hx H) ?_
   refine nw_st H fun b8 w H => ?_
   refine vst_st (x := Z63) (y := v) lenV 0 H rfl fun w H => ?_
   refine vld_st (x := v) 0 H rfl ?_
   refine cl_mono (valid_spec H) ?_
   rintro r w ⟨rfl, H⟩
   split
   ·rename_i hne
    have hne : okV v ≠ 0 := by simpa using hne
    have hb := hbd hne
    exact ⟨hb.symm, fun h => absurd (hb ▸ h) hne, fun _ => rfl, H.drop.drop⟩
   ·rename_i hne
    have hv : okV v = 0 := by simpa using hne
    refine vld_st (x := v) 0 H rfl ?_
    refine cl_mono (put_spec (hI v hm) hv (by rw [B_len]; omega) 1 H rfl) ?_
    intro q w H
    have e1 : IntKind.i64.wrap (i + 1) = i + 1 := wrap_i64 (by omega) (by omega)
    rw [e1]
    have e2 : (i + 1).toNat = i.toNat + 1 := by omega
    refine hK _ _ ⟨by simp only; omega, by simp only; omega, ?_, ?_⟩ (by simp only; omega)
    ·simp only [e2, ht]
     intro x hx
     rcases List.mem_append.1 hx with hx | hx
     ·exact hok x hx
     ·rw [List.mem_singleton.1 hx]; exact hv
    ·simp only [e2, ht]
     rw [encs_app, B_app]
     have e3 : encs [v] = enc1 v := by simp [encs]
     rw [e3]
     exact ((H.front 1).drop)
  ·rename_i hi
   have hi : i = vs.length := by simp at hi; omega
   subst hi
   have e3 : vs.take ((vs.length : Int)).toNat = vs := by simp
   rw [e3] at hok H
   have hb := bad_of hok
   exact ⟨hb.symm, fun _ => H, fun h => absurd hb h, H.drop⟩
end
end Go.Proofs.YtehclfjjjiiieaaGreat.Wire
namespace Go.Proofs.YtehclfjjjiiieaaGreat.Wire
open Go Go.Proofs.YtehclfjjjiiieaaGreat.Cf
set_option linter.unusedVariables false
set_option linter.unusedSimpArgs false
set_option maxRecDepth 100000
section
variable {α : Type} {T : Ty α} {W w : World} {l l' : List Assn}
theorem RdS_sub {sz : Nat} {s r : Slc} {xs : List α} {i h m : Int} (hl : ∀ x, (T.cells x).length = sz) (hs : Sub s sz i h m r) (hh : h ≤ xs.length) (hsp : ∀ a, s.a = some a → xs ≠ [] → a.spot = none) (k : RdS T w s xs) : RdS T w r ((xs.take h.toNat).drop i.toNat) := by
 obtain ⟨h0, h1, h2, h3, rfl⟩ := hs
 obtain ⟨k1, k2⟩ := k
 have hlen : ((xs.take h.toNat).drop i.toNat).length = h.toNat - i.toNat := by rw [List.length_drop, List.length_take]; omega
 refine ⟨hlen, ?_⟩
 simp only
 obtain ⟨a, n, c⟩ := s
 cases a with
 | none =>
  have : xs = [] := k2
  subst this
  split <;> simp [RdO]
 | some a =>
  split
  ·rename_i e
   have : (xs.take h.toNat).drop i.toNat = [] := List.eq_nil_of_length_eq_zero (by rw [hlen]; omega)
   rw [this]
   intro j v hv; simp at hv
  ·intro j v hv
   have hne : xs ≠ [] := by
    rintro rfl
    simp at hv
   have e2 : xs.flatMap T.cells = (xs.take i.toNat).flatMap T.cells ++ (((xs.take h.toNat).drop i.toNat).flatMap T.cells ++ (xs.drop h.toNat).flatMap T.cells) := by
    have e3 : xs.take i.toNat = (xs.take h.toNat).take i.toNat := by rw [List.take_take, Nat.min_eq_left (by omega)]
    rw [e3, ← List.append_assoc, ← List.flatMap_append, List.take_append_drop, ← List.flatMap_append, List.take_append_drop]
   have e4 : ((xs.take i.toNat).flatMap T.cells).length = i.toNat * sz := by rw [flat_len hl, List.length_take]; congr 1; omega
   rw [add_add (hsp a rfl hne)]
   refine (k2 : Rd w a _) (i.toNat * sz + j) v ?_
   rw [e2, ← e4, List.getElem?_append_right (by omega), Nat.add_sub_cancel_left]
   rw [List.getElem?_append_left (List.getElem?_eq_some_iff.1 hv).1]; exact hv
theorem _root_.Go.Proofs.YtehclfjjjiiieaaGreat.Cf.See.spot {sz : Nat} {s : Slc} {xs : List α} (k : See sz l T s xs) (H : St W l w) : ∀ a, s.a = some a → xs ≠ [] → a.spot = none := by
 intro a ha hne
 have hl : 0 < xs.length := by
  cases xs with
  | nil => exact absurd rfl hne
  | cons => simp
 obtain ⟨b, hb, hsp, _⟩ := (k W [] w H).2.2 0 (by omega) (by omega)
 obtain ⟨c, hc, _, _, rfl⟩ := hb
 rw [ha] at hc; injection hc with hc; subst hc
 have e : (0 : Int).toNat * sz = 0 := by simp
 rw [e] at hsp
 simpa [Addr.add] using hsp
theorem _root_.Go.Proofs.YtehclfjjjiiieaaGreat.Cf.See.sub {sz : Nat} {s r : Slc} {xs : List α} {i h m : Int} (k : See sz l T s xs) (hl : ∀ x, (T.cells x).length = sz) (hs : Sub s sz i h m r) (hh : h ≤ xs.length) (H : St W l w) : RdS T w r ((xs.take h.toNat).drop i.toNat) :=
 RdS_sub hl hs hh (k.spot H) (k.rdS H)
end
def rdr (b : Nat) (s : Slc) (at_ : Nat) : Assn := cel b [tSlc.enc s, .int .i64 at_] 129
def flt (e : Int) : Iv := Iv.mk 131 (T130.enc ⟨e⟩)
section
variable {W w : World} {l l' : List Assn} {b : Nat} {s : Slc} {bs : List UInt8}
theorem drop_cons {rest : List UInt8} {a : Nat} {c : UInt8} (h : bs.drop a = c :: rest) : a < bs.length ∧ bs[a]? = some c ∧ bs.drop (a + 1) = rest := by
 have hl : a < bs.length := by
  rcases Nat.lt_or_ge a bs.length with h' | h'
  ·exact h'
  ·rw [List.drop_eq_nil_of_le h'] at h; cases h
 refine ⟨hl, ?_, ?_⟩
 ·have := congrArg (fun l => l[0]?) h
  simpa using this
 ·have := congrArg (List.drop 1) h
  simpa [List.drop_drop] using this
theorem next_spec {Pn : Iv → World → Prop} {K : Int → World → Prop} {a : Nat} {rest : List UInt8} (hn : bs.length ≤ 9223372036854775806) (k : See 1 l (tInt .u8) s (B bs)) (ha : a ≤ bs.length) (hd : bs.drop a = rest) (H : St W (rdr b s a :: l) w)
  (hp : rest = [] → ∀ w', St W (rdr b s a :: l) w' → Pn (flt 22) w')
  (hk : ∀ c r w', rest = c :: r → a + 1 ≤ bs.length → bs.drop (a + 1) = r → St W (rdr b s (a + 1) :: l) w' → K (c.toNat : Int) w') :
  clp Tryz.prog 95 [.pointer (some ⟨b, 0, none⟩)] (tInt .u8) w Pn K := by
 have hs := k.tail.len H
 rw [B_len] at hs
 refine F95_ok ?_
 unfold F95
 refine dr_st H fun w H => ?_
 refine nc_st rfl ?_
 refine ld_st (x := (a : Int)) 0 H rfl rfl rfl ?_
 refine ld_st (x := s) 0 H rfl rfl rfl ?_
 rw [hs]
 cases rest with
 | nil =>
  have hl : bs.length ≤ a := by
   have := congrArg List.length hd
   simp at this; omega
  rw [if_pos (by simp; omega)]
  exact hp rfl _ H
 | cons c r =>
  obtain ⟨h1, h2, h3⟩ := drop_cons hd
  rw [if_neg (by simp; omega)]
  refine ld_st (x := (a : Int)) 0 H rfl rfl rfl ?_
  have e1 : IntKind.i64.wrap ((a : Int) + 1) = ((a + 1 : Nat) : Int) := by rw [wr_i64]; omega
  rw [e1]
  refine st_st (x := ((a + 1 : Nat) : Int)) 0 H rfl rfl (Nat.le_of_ble_eq_true rfl) fun w H => ?_
  refine dr_st H fun w H => ?_
  refine ld_st (x := s) 0 H rfl rfl rfl ?_
  refine ld_st (x := ((a + 1 : Nat) : Int)) 0 H rfl rfl rfl ?_
  have e2 : IntKind.i64.wrap (((a + 1 : Nat) : Int) - 1) = (a : Int) := by rw [wr_i64]; omega
  rw [e2]
  obtain ⟨x, hx⟩ := k.tail.ix (i := (a : Int)) H (by omega) (by rw [B_len]; omega)
  refine ex_i x hx ?_
  refine ex_i (c.toNat : Int) (k.tail.rd hx (by simp [B, h2]) H) ?_
  exact hk c r _ rfl (by omega) h3 H
theorem numr_spec {Pn : Iv → World → Prop} {K : Int → World → Prop} {a : Nat} {rest : List UInt8} (hn : bs.length ≤ 9223372036854775806) (k : See 1 l (tInt .u8) s (B bs)) (ha : a ≤ bs.length) (hd : bs.drop a = rest) (H : St W (rdr b s a :: l) w)
  (hp : ∀ e a' w', rdNum rest 0 0 = .error e → St W (rdr b s a' :: l) w' → Pn (flt e) w')
  (hk : ∀ n r a' w', rdNum rest 0 0 = .ok (n, r) → a' ≤ bs.length → bs.drop a' = r → St W (rdr b s a' :: l) w' → K ((n : Nat) : Int) w') :
  clp Tryz.prog 96 [.pointer (some ⟨b, 0, none⟩)] (tInt .u64) w Pn K := by
 refine F96_ok ?_
 unfold F96
 refine lp_p (fun p w => ∃ (j acc a' : Nat) (r : List UInt8), j ≤ 9 ∧ p.1 = (acc : Int) ∧ p.2 = ((7 * j : Nat) : Int) ∧ acc < 2 ^ (7 * j) ∧ a' ≤ bs.length ∧ bs.drop a' = r ∧ rdNum rest 0 0 = rdNum r j acc ∧ St W (rdr b s a' :: l) w) (fun p => (70 - p.2).toNat)
  ⟨0, 0, a, rest, by omega, rfl, rfl, by simp, ha, hd, rfl, H⟩ ?_
 clear H ha hd
 rintro ⟨m, by_⟩ w ⟨j, acc, a', r, hj, hm, hb, hacc, ha, hd, he, H⟩ K' hK
 simp only at hm hb
 subst hm; subst hb
 unfold F96_l1
 refine next_spec hn k ha hd H ?_ ?_
 ·rintro rfl w H
  exact hp 22 _ _ (by rw [he]; rfl) H
 ·rintro c r' w rfl ha' hd' H
  have hc : c.toNat < 256 := c.toNat_lt
  simp only [rdNum] at he
  have hcond : (((((7 * j : Nat) : Int) == (63 : Int)) && (decide ((c.toNat : Int) > (1 : Int)))) || ((decide (((7 * j : Nat) : Int) > (0 : Int))) && ((c.toNat : Int) == (0 : Int)))) = true ↔ (j = 9 ∧ 1 < c.toNat) ∨ (0 < j ∧ c.toNat = 0) := by
   simp only [Bool.or_eq_true, Bool.and_eq_true, beq_iff_eq, decide_eq_true_eq]
   omega
  by_cases hq : (j = 9 ∧ 1 < c.toNat) ∨ (0 < j ∧ c.toNat = 0)
  ·rw [if_pos (hcond.2 hq)]
   rw [if_pos hq] at he
   exact hp 23 _ _ he H
  ·rw [if_neg (fun h => hq (hcond.1 h))]
   rw [if_neg hq] at he
   refine shift_i (by omega) ?_
   have p1 : (128 : Nat) ^ j = 2 ^ (7 * j) := by rw [Nat.pow_mul]
   have m1 : min (((7 * j : Nat) : Int)).toNat IntKind.u64.bits = 7 * j := by
    have : IntKind.u64.bits = 64 := rfl
    rw [this]; omega
   have hfit : c.toNat % 128 * 2 ^ (7 * j) < 18446744073709551616 := by
    rw [← p1]
    rcases p9 hj with e | e | e | e | e | e | e | e | e | ⟨e9, e⟩ <;> rw [e] <;> omega
   have e1 : IntKind.u64.wrap (IntKind.u64.wrap (bits .and .u8 (c.toNat : Int) 127) * 2 ^ (min (((7 * j : Nat) : Int)).toNat IntKind.u64.bits)) = ((c.toNat % 128 * 2 ^ (7 * j) : Nat) : Int) := by
    rw [m1, and127 (by omega) (by omega)]
    have e : IntKind.u64.wrap ((c.toNat : Int) % 128) = ((c.toNat % 128 : Nat) : Int) := by rw [wr_u64]; omega
    rw [e]
    have e2 : ((c.toNat % 128 : Nat) : Int) * 2 ^ (7 * j) = ((c.toNat % 128 * 2 ^ (7 * j) : Nat) : Int) := by push_cast; rfl
    rw [e2, wr_u64]
    generalize c.toNat % 128 * 2 ^ (7 * j) = q at hfit
    omega
   have h63 : acc < 18446744073709551616 := Nat.lt_of_lt_of_le hacc (by
    have := Nat.pow_le_pow_right (n := 2) (by omega) (show 7 * j ≤ 64 by omega)
    simpa using this)
   have e2 : bits .or .u64 (acc : Int) ((c.toNat % 128 * 2 ^ (7 * j) : Nat) : Int) = ((acc + c.toNat % 128 * 128 ^ j : Nat) : Int) := by
    rw [or_low .u64 64 (by decide) wid_u64 (7 * j) _ _ (by omega) (by exact_mod_cast hacc) (by exact_mod_cast h63) (by omega) ?_ (by exact_mod_cast hfit)]
    ·rw [p1]; push_cast; rfl
    ·have : c.toNat % 128 * 2 ^ (7 * j) % 2 ^ (7 * j) = 0 := Nat.mul_mod_left _ _
     exact_mod_cast this
   rw [e1, e2]
   by_cases hlt : c.toNat < 128
   ·rw [if_pos (by simp; omega)]
    rw [if_pos hlt] at he
    exact hk _ _ _ _ he ha' hd' H
   ·rw [if_neg (by simp; omega)]
    rw [if_neg hlt] at he
    have h8 : j ≤ 8 := by omega
    refine hK _ _ ⟨j + 1, acc + c.toNat % 128 * 128 ^ j, a' + 1, r', by omega, rfl, by simp only; rw [wr_u64]; omega, ?_, ha', hd', he, H⟩ (by simp only; rw [wr_u64]; omega)
    rw [p1, show 7 * (j + 1) = 7 * j + 7 from by omega, Nat.pow_add]
    have : c.toNat % 128 * 2 ^ (7 * j) ≤ 127 * 2 ^ (7 * j) := Nat.mul_le_mul_right _ (by omega)
    have e7 : (2 : Nat) ^ 7 = 128 := rfl
    rw [e7]
    omega
def rdF (rest : List UInt8) : Except Int (Nat × List UInt8) := match rdBe 8 0 rest with
 | .error e => .error e
 | .ok (n, r) => if fb n ≠ n then .error 25 else .ok (n, r)
theorem flt_spec {Pn : Iv → World → Prop} {K : Nat → World → Prop} {a : Nat} {rest : List UInt8} (hn : bs.length ≤ 9223372036854775806) (k : See 1 l (tInt .u8) s (B bs)) (ha : a ≤ bs.length) (hd : bs.drop a = rest) (H : St W (rdr b s a :: l) w)
  (hp : ∀ e a' w', rdF rest = .error e → St W (rdr b s a' :: l) w' → Pn (flt e) w')
  (hk : ∀ n r a' w', rdF rest = .ok (n, r) → a' ≤ bs.length → bs.drop a' = r → St W (rdr b s a' :: l) w' → K n w') :
  clp Tryz.prog 97 [.pointer (some ⟨b, 0, none⟩)] tFlt w Pn K := by
 refine F97_ok ?_
 unfold F97
 refine lp_p (fun p w => ∃ (j acc a' : Nat) (r : List UInt8), j ≤ 8 ∧ p.1 = (acc : Int) ∧ p.2 = (j : Int) ∧ acc < 256 ^ j ∧ a' ≤ bs.length ∧ bs.drop a' = r ∧ rdBe 8 0 rest = rdBe (8 - j) acc r ∧ St W (rdr b s a' :: l) w) (fun p => (8 - p.2).toNat)
  ⟨0, 0, a, rest, by omega, rfl, rfl, by simp, ha, hd, rfl, H⟩ ?_
 clear H ha hd
 rintro ⟨m, t⟩ w ⟨j, acc, a', r, hj, hm, hb, hacc, ha, hd, he, H⟩ K' hK
 simp only at hm hb
 subst hm; subst hb
 unfold F97_l1
 split
 ·rename_i hc
  have hc : j < 8 := by simp at hc; omega
  rw [show 8 - j = (7 - j) + 1 from by omega] at he
  have hp7 : 256 ^ (j + 1) ≤ 18446744073709551616 := by
   have := Nat.pow_le_pow_right (n := 256) (by omega) (show j + 1 ≤ 8 by omega)
   simpa using this
  have hps : 256 ^ (j + 1) = 256 ^ j * 256 := Nat.pow_succ ..
  have hx : acc * 256 + 256 ≤ 256 ^ (j + 1) := by rw [hps]; omega
  refine shift_i (by omega) ?_
  have e1 : IntKind.u64.wrap ((acc : Int) * 2 ^ (min ((8 : Int)).toNat IntKind.u64.bits)) = ((acc * 256 : Nat) : Int) := by
   have m1 : min ((8 : Int)).toNat IntKind.u64.bits = 8 := rfl
   rw [m1, wr_u64]; omega
  rw [e1]
  refine next_spec hn k ha hd H ?_ ?_
  ·rintro rfl w H
   exact hp 22 _ _ (by unfold rdF; rw [he]; rfl) H
  ·rintro c r' w rfl ha' hd' H
   have hc8 : c.toNat < 256 := c.toNat_lt
   have e2 : IntKind.u64.wrap (c.toNat : Int) = (c.toNat : Int) := by rw [wr_u64]; omega
   have e3 : bits .or .u64 ((acc * 256 : Nat) : Int) (c.toNat : Int) = ((acc * 256 + c.toNat : Nat) : Int) := by
    rw [bits_join .u64 64 (by decide) wid_u64 8 _ _ (by omega) (by omega) (by omega) (by omega) (by omega) (by omega)]
    omega
   rw [e2, e3]
   simp only [rdBe] at he
   refine hK _ _ ⟨j + 1, acc * 256 + c.toNat, a' + 1, r', by omega, rfl, by simp only; rw [wr_i64]; omega, by omega, ha', hd', ?_, H⟩ (by simp only; rw [wr_i64]; omega)
   rw [he, show 8 - (j + 1) = 7 - j from by omega]
 ·rename_i hc
  have hc : j = 8 := by simp at hc; omega
  subst hc
  simp only [Nat.sub_self, rdBe] at he
  have e0 : Int.toNat (acc : Int) = acc := by omega
  rw [e0]
  refine cl_mono (bits_spec H) ?_
  rintro q w ⟨rfl, H⟩
  have hF : rdF rest = if fb acc ≠ acc then .error 25 else .ok (acc, r) := by unfold rdF; rw [he]
  by_cases hne : fb acc ≠ acc
  ·rw [if_pos (by simp; omega)]
   rw [if_pos hne] at hF
   exact hp 25 _ _ hF H
  ·rw [if_neg (by simp at hne ⊢; omega)]
   rw [if_neg hne] at hF
   exact hk _ _ _ _ hF ha hd H
def rdT (rest : List UInt8) : Except Int (List UInt8 × List UInt8) := match rdNum rest 0 0 with
 | .error e => .error e
 | .ok (n, r) => if 1000 < n then .error 24 else if r.length < n then .error 22 else .ok (r.take n, r.drop n)
theorem text_spec {Pn : Iv → World → Prop} {K : List UInt8 → World → Prop} {a : Nat} {rest : List UInt8} (hcap : s.len ≤ s.cap) (hn : bs.length ≤ 9223372036854775806) (k : See 1 l (tInt .u8) s (B bs)) (ha : a ≤ bs.length) (hd : bs.drop a = rest) (H : St W (rdr b s a :: l) w)
  (hp : ∀ e a' w', rdT rest = .error e → St W (rdr b s a' :: l) w' → Pn (flt e) w')
  (hk : ∀ n r a' w', rdT rest = .ok (n, r) → a' ≤ bs.length → bs.drop a' = r → St W (rdr b s a' :: l) w' → K n w') :
  clp Tryz.prog 98 [.pointer (some ⟨b, 0, none⟩)] tStr w Pn K := by
 have hs := k.tail.len H
 rw [B_len] at hs
 refine F98_ok ?_
 unfold F98
 refine numr_spec hn k ha hd H ?_ ?_
 ·intro e a' w he H
  exact hp e a' w (by unfold rdT; rw [he]) H
 ·intro n r a' w he ha hd H
  have hT : rdT rest = if 1000 < n then .error 24 else if r.length < n then .error 22 else .ok (r.take n, r.drop n) := by unfold rdT; rw [he]
  by_cases h1 : 1000 < n
  ·rw [if_pos (by simp; omega)]
   rw [if_pos h1] at hT
   exact hp 24 _ _ hT H
  ·rw [if_neg (by simp; omega)]
   rw [if_neg h1] at hT
   have hrl : r.length = bs.length - a' := by rw [← hd, List.length_drop]
   refine dr_st H fun w H => ?_
   refine nc_st rfl ?_
   refine ld_st (x := s) 0 H rfl rfl rfl ?_
   refine ld_st (x := (a' : Int)) 0 H rfl rfl rfl ?_
   rw [hs]
   have e1 : IntKind.u64.wrap (IntKind.i64.wrap ((bs.length : Int) - (a' : Int))) = ((r.length : Nat) : Int) := by
    rw [wrap_i64 (by omega) (by omega), wid_u64 _ (by omega) (by omega)]; omega
   rw [e1]
   by_cases h2 : r.length < n
   ·rw [if_pos (by simp; omega)]
    rw [if_pos h2] at hT
    exact hp 22 _ _ hT H
   ·rw [if_neg (by simp; omega)]
    rw [if_neg h2] at hT
    refine ld_st (x := (a' : Int)) 0 H rfl rfl rfl ?_
    have ew : IntKind.i64.wrap (n : Int) = (n : Int) := wrap_i64 (by omega) (by omega)
    rw [ew]
    have e2 : IntKind.i64.wrap ((a' : Int) + (n : Int)) = ((a' + n : Nat) : Int) := by rw [wrap_i64 (by omega) (by omega)]; omega
    rw [e2]
    refine st_st (x := ((a' + n : Nat) : Int)) 0 H rfl rfl (Nat.le_of_ble_eq_true rfl) fun w H => ?_
    refine dr_st H fun w H => ?_
    refine ld_st (x := s) 0 H rfl rfl rfl ?_
    refine ld_st (x := ((a' + n : Nat) : Int)) 0 H rfl rfl rfl ?_
    refine ld_st (x := ((a' + n : Nat) : Int)) 0 H rfl rfl rfl ?_
    have e3 : IntKind.i64.wrap (((a' + n : Nat) : Int) - (n : Int)) = (a' : Int) := by rw [wrap_i64 (by omega) (by omega)]; omega
    rw [e3]
    refine sub_st (by omega) (by omega) (by omega) (by omega) fun q hq => ?_
    have hr := k.tail.sub (fun _ => rfl) hq (by rw [B_len]; omega) H
    have hb : ((B bs).take (((a' + n : Nat) : Int)).toNat).drop ((a' : Int)).toNat = B (r.take n) := by
     simp only [Int.toNat_natCast]
     rw [← hd]
     unfold B
     rw [← List.map_take, ← List.map_drop, List.take_drop, Nat.add_comm]
    rw [hb] at hr
    refine b2s_st (r := r.take n) hr ?_
    exact hk _ _ _ _ hT (by omega) (by rw [← hd, List.drop_drop]) H
theorem zag_get {n : Nat} (h : n < 18446744073709551616) :
  bits .xor .i64 (IntKind.i64.wrap (Int.fdiv (n : Int) (2 ^ (min ((1 : Int)).toNat IntKind.u64.bits)))) (IntKind.i64.wrap (0 - (IntKind.i64.wrap (bits .and .u64 (n : Int) (1 : Int))))) = zag n := by
 have m1 : min ((1 : Int)).toNat IntKind.u64.bits = 1 := rfl
 rw [m1, fdiv_nat, and1 (by omega) (by omega)]
 have e1 : IntKind.i64.wrap ((n / 2 ^ 1 : Nat) : Int) = ((n / 2 : Nat) : Int) := by rw [wr_i64]; omega
 rw [e1]
 unfold zag
 by_cases hn : n % 2 = 1
 ·rw [if_pos hn]
  have e2 : IntKind.i64.wrap (0 - IntKind.i64.wrap ((n : Int) % 2)) = -1 := by rw [wr_i64, wr_i64]; omega
  rw [e2, xorm_i64 (by omega) (by omega)]
 ·rw [if_neg hn]
  have e2 : IntKind.i64.wrap (0 - IntKind.i64.wrap ((n : Int) % 2)) = 0 := by rw [wr_i64, wr_i64]; omega
  rw [e2, xor0_i64 (by omega) (by omega)]
theorem value_spec {Pn : Iv → World → Prop} {K : Val → World → Prop} {a : Nat} {rest : List UInt8} (hcap : s.len ≤ s.cap) (hn : bs.length ≤ 9223372036854775806) (k : See 1 l (tInt .u8) s (B bs)) (ha : a ≤ bs.length) (hd : bs.drop a = rest) (H : St W (rdr b s a :: l) w)
  (hp : ∀ e a' w', dec1 rest = .error e → St W (rdr b s a' :: l) w' → Pn (flt e) w')
  (hk : ∀ v r a' w', dec1 rest = .ok (v, r) → a' ≤ bs.length → bs.drop a' = r → St W (rdr b s a' :: l) w' → K v w') :
  clp Tryz.prog 60 [.pointer (some ⟨b, 0, none⟩)] TV w Pn K := by
 refine F60_ok ?_
 unfold F60
 refine nw_st H fun b2 w H => ?_
 refine next_spec hn k.tail ha hd (H.front 1) ?_ ?_
 ·rintro rfl w H
  exact hp 22 a w rfl ((H.front 1).drop)
 ·rintro c r w rfl ha hd H
  have hc8 : c.toNat < 256 := c.toNat_lt
  have e0 : IntKind.i64.wrap (c.toNat : Int) = (c.toNat : Int) := by rw [wr_i64]; omega
  rw [e0]
  refine nw_st H fun b6 w H => ?_
  refine vst_st (x := Z63) (y := (⟨(c.toNat : Int), 0, 0, 0, []⟩ : Val)) lenV 0 H rfl fun w H => ?_
  refine ld_st (x := (c.toNat : Int)) 0 H rfl rfl rfl ?_
  have j1 : ∀ (v : Val) (a' : Nat) (w : World), (∀ w', St W (rdr b s a' :: l) w' → K v w') → St W (cel b6 (TV.cells v) 64 :: rdr b s a' :: cel b2 (TV.cells Z63) 64 :: l) w → F60_j1 ⟨b2, 0, none⟩ ⟨b6, 0, none⟩ w K Pn := by
   intro v a' w hv H
   unfold F60_j1
   refine vld_st (x := v) 0 H rfl ?_
   refine vst_st (x := Z63) (y := v) lenV 2 H rfl fun w H => ?_
   refine vld_st (x := v) 0 H rfl ?_
   exact hv _ ((H.front 2).imp fun _ _ ⟨h1, h2, h3, h4, h5, h6, h7⟩ => ⟨h1, h2, h3, h4, h5, h6, Seps.mono (PMap.le_refl _) (PMap.le_refl _) (by
    obtain ⟨_, _, _, _, l2, _, g1, g2, _, _, l4, _, g⟩ := h7
    exact Seps.mono (PMap.le_refl _) (PMap.le_trans l4 l2) g)⟩)
  have kk : See 1 (cel b6 (TV.cells (⟨(c.toNat : Int), 0, 0, 0, []⟩ : Val)) 64 :: cel b2 (TV.cells Z63) 64 :: l) (tInt .u8) s (B bs) := k.tail.tail
  have H := H.front 1
  have hfail : ∀ e a' w', dec1 (c :: r) = .error e → St W (rdr b s a' :: cel b6 (TV.cells (⟨(c.toNat : Int), 0, 0, 0, []⟩ : Val)) 64 :: cel b2 (TV.cells Z63) 64 :: l) w' → Pn (flt e) w' := by
   intro e a' w' he H
   exact hp e a' w' he (((((H.front 1).drop).front 1).drop))
  by_cases h1 : c.toNat = 1
  ·rw [if_pos (by simp [h1])]
   refine numr_spec hn kk ha hd H ?_ ?_
   ·intro e a' w he H
    exact hfail e a' w (by simp only [dec1, h1, if_true, he]) H
   ·intro n r' a' w he ha hd H
    refine st_st (x := (n : Int)) 1 H rfl rfl (Nat.le_of_ble_eq_true rfl) fun w H => ?_
    refine j1 ⟨(c.toNat : Int), n, 0, 0, []⟩ a' w (fun w' H => hk _ r' a' w' ?_ ha hd H) H
    simp only [dec1, h1, if_true, he]; rfl
  ·rw [if_neg (by simp; omega)]
   by_cases h2 : c.toNat = 2
   ·rw [if_pos (by simp [h2])]
    refine numr_spec hn kk ha hd H ?_ ?_
    ·intro e a' w he H
     exact hfail e a' w (by simp only [dec1, h2, if_true, he, show ¬ (2 : Nat) = 1 from by decide, if_false]) H
    ·intro n r' a' w he ha hd H
     obtain ⟨hlt, _⟩ := rdNum_ok2 he
     refine shift_i (by omega) ?_
     rw [zag_get hlt]
     refine st_st (x := zag n) 1 H rfl rfl (Nat.le_of_ble_eq_true rfl) fun w H => ?_
     refine j1 ⟨(c.toNat : Int), 0, zag n, 0, []⟩ a' w (fun w' H => hk _ r' a' w' ?_ ha hd H) H
     simp only [dec1, h2, if_true, he, show ¬ (2 : Nat) = 1 from by decide, if_false]; rfl
   ·rw [if_neg (by simp; omega)]
    by_cases h3 : c.toNat = 3
    ·rw [if_pos (by simp [h3])]
     have hF : dec1 (c :: r) = match rdF r with | .error e => .error e | .ok (n, q) => .ok (⟨3, 0, 0, n, []⟩, q) := by
      simp only [dec1, h3, if_true, show ¬ (3 : Nat) = 1 from by decide, show ¬ (3 : Nat) = 2 from by decide, if_false, rdF]
      cases rdBe 8 0 r with
      | error e => rfl
      | ok p => obtain ⟨n, q⟩ := p; simp only; split <;> rfl
     refine flt_spec hn kk ha hd H ?_ ?_
     ·intro e a' w he H
      exact hfail e a' w (by rw [hF, he]) H
     ·intro n r' a' w he ha hd H
      refine st_st (T := tFlt) (x := n) 1 H rfl rfl (Nat.le_of_ble_eq_true rfl) fun w H => ?_
      refine j1 ⟨(c.toNat : Int), 0, 0, n, []⟩ a' w (fun w' H => hk _ r' a' w' ?_ ha hd H) H
      rw [hF, he, h3]; rfl
    ·rw [if_neg (by simp; omega)]
     by_cases h4 : c.toNat = 4
     ·rw [if_pos (by simp [h4])]
      have hF : dec1 (c :: r) = match rdT r with | .error e => .error e | .ok (n, q) => .ok (⟨4, 0, 0, 0, n⟩, q) := by
       simp only [dec1, h4, if_true, show ¬ (4 : Nat) = 1 from by decide, show ¬ (4 : Nat) = 2 from by decide, show ¬ (4 : Nat) = 3 from by decide, if_false, rdT]
       cases rdNum r 0 0 with
       | error e => rfl
       | ok p =>
        obtain ⟨n, q⟩ := p
        simp only
        split
        ·rfl
        ·split <;> rfl
      refine text_spec hcap hn kk ha hd H ?_ ?_
      ·intro e a' w he H
       exact hfail e a' w (by rw [hF, he]) H
      ·intro n r' a' w he ha hd H
       refine st_st (T := tStr) (x := n) 1 H rfl rfl (Nat.le_of_ble_eq_true rfl) fun w H => ?_
       refine j1 ⟨(c.toNat : Int), 0, 0, 0, n⟩ a' w (fun w' H => hk _ r' a' w' ?_ ha hd H) H
       rw [hF, he, h4]; rfl
     ·rw [if_neg (by simp; omega)]
      exact hfail 21 _ _ (by simp only [dec1, h1, h2, h3, h4, if_false]) H
end
end Go.Proofs.YtehclfjjjiiieaaGreat.Wire
namespace Go.Proofs.YtehclfjjjiiieaaGreat.Wire
open Go Go.Proofs.YtehclfjjjiiieaaGreat.Cf
set_option linter.unusedVariables false
set_option linter.unusedSimpArgs false
set_option maxRecDepth 100000
def unpF : Nat → List UInt8 → List Val → Nat → List Val × Nat × Int
 | 0, _, l, _ => (l, 0, 0)
 | _ + 1, [], l, _ => (l, 0, 0)
 | f + 1, c :: bs, l, a => if l.length = 1000 then ([], a, 20) else match dec1 (c :: bs) with
  | .error e => ([], a, e)
  | .ok (v, r) => unpF f r (l ++ [v]) (a + (bs.length + 1 - r.length))
def unp (bs : List UInt8) : List Val × Nat × Int := unpF (bs.length + 1) bs [] 0
theorem dec1_less {bs r : List UInt8} {v : Val} (h : dec1 bs = .ok (v, r)) : r.length < bs.length := by
 obtain ⟨_, _, _, rfl⟩ := dec1_sound h
 simp only [enc1, List.length_append, List.length_cons]
 omega
section
variable {W w : World} {l l' : List Assn} {s : Slc} {bs : List UInt8}
theorem catch_spec {a2 a4 a6 a10 : Nat} {q : Slc} {p0 e0 : Int} {a : Nat} {e : Int} {R : Slc × Int × Int → World → Prop} (H : St W (cel a10 [.int .i64 a] 3 :: cel a2 [tSlc.enc q] 65 :: cel a4 [.int .i64 p0] 3 :: cel a6 [.int .i64 e0] 34 :: l) w)
  (hk : ∀ w', St W l w' → R (nilS, (a : Int), e) w') : F28_p ⟨a10, 0, none⟩ ⟨a2, 0, none⟩ ⟨a4, 0, none⟩ ⟨a6, 0, none⟩ R (flt e) w := by
 unfold F28_p
 refine lvd_of (F59_ok (recov_pnc (flt e)) ?_) rfl
 unfold F59
 rw [if_pos (by rfl)]
 refine ex_i (⟨e⟩, true) (.inl ⟨⟨e⟩, rfl, rfl⟩) ?_
 refine nw_st H fun b w H => ?_
 refine vst_st (x := Z130) (y := (⟨e⟩ : S130)) (fun _ => rfl) 0 H rfl fun w H => ?_
 rw [if_neg (by simp)]
 refine dr_st H fun w H => ?_
 refine ld_st (x := (a : Int)) 1 H rfl rfl rfl ?_
 refine ld_st (x := e) 0 H rfl rfl rfl ?_
 refine st_st (x := nilS) 2 H rfl rfl (Nat.le_of_ble_eq_true rfl) fun w H => ?_
 refine ⟨rdat_cel (tInt .i64) (H.front 1) rfl rfl, ?_⟩
 refine st_st (x := (a : Int)) 3 H rfl rfl (Nat.le_of_ble_eq_true rfl) fun w H => ?_
 refine ⟨rdat_cel (tInt .i64) (H.front 2) rfl rfl, ?_⟩
 refine st_st (x := e) 4 H rfl rfl (Nat.le_of_ble_eq_true rfl) fun w H => ?_
 refine ld_st (x := nilS) 2 H rfl rfl rfl ?_
 refine ld_st (x := (a : Int)) 1 H rfl rfl rfl ?_
 refine ld_st (x := e) 0 H rfl rfl rfl ?_
 exact hk _ H.drop.drop.drop.drop.drop
theorem idle_spec {args : List Value} {a b c d : Addr} {K : World → Prop} (hk : K w) : lvd Tryz.prog 59 [.pointer (some a), .pointer (some b), .pointer (some c), .pointer (some d)] .returning w K := by
 refine lvd_of (F59_ok recov_ret ?_) rfl
 unfold F59
 rw [if_neg (by simp [Iv.isNil])]
 exact hk
theorem unpack_spec (hcap : s.len ≤ s.cap) (hn : bs.length ≤ 9223372036854775806) (k : See 1 l (tInt .u8) s (B bs)) (H : St W l w) :
  cl Tryz.prog 28 [tSlc.enc s] (tTup3 tSlc (tInt .i64) (tInt .i64)) w fun r w' => r.2.1 = ((unp bs).2.1 : Int) ∧ r.2.2 = (unp bs).2.2 ∧ St W (row TV 64 5 r.1 (unp bs).1 :: l) w' := by
 have hs := k.len H
 rw [B_len] at hs
 refine F28_ok ?_
 unfold F28
 refine nw_st H fun a2 w H => ?_
 refine nw_st H fun a4 w H => ?_
 refine nw_st H fun a6 w H => ?_
 refine nw_st H fun a8 w H => ?_
 refine nw_st H fun a10 w H => ?_
 refine st_st (x := (0 : Int)) 0 H rfl rfl (Nat.le_of_ble_eq_true rfl) fun w H => ?_
 have H := row_nil TV 64 5 H
 refine lp_n (fun n _ w => ∃ (f a x : Nat) (q : Slc) (vs : List Val), n = bs.length - a ∧ a ≤ bs.length ∧ bs.length - a < f ∧ vs.length ≤ 1000 ∧ unp bs = unpF f (bs.drop a) vs a ∧
  St W (rdr a8 s a :: cel a10 [.int .i64 x] 3 :: cel a2 [tSlc.enc q] 65 :: row TV 64 5 q vs :: cel a4 [.int .i64 0] 3 :: cel a6 [.int .i64 0] 34 :: l) w) bs.length
  ⟨bs.length + 1, 0, 0, nilS, [], by omega, by omega, by omega, by simp, rfl, H.ord [2, 1, 5, 0, 4, 3]⟩ ?_
 clear H
 rintro n ⟨⟩ w ⟨f, a, x, q, vs, rfl, ha, hf, hv, he, H⟩ K hK
 unfold F28_l1
 refine ld_st (x := (a : Int)) 0 H rfl rfl rfl ?_
 rw [hs]
 obtain ⟨f, rfl⟩ : ∃ g, f = g + 1 := ⟨f - 1, by omega⟩
 by_cases hlt : a < bs.length
 ·rw [if_pos (by simp; omega)]
  obtain ⟨c, r, hd⟩ : ∃ c r, bs.drop a = c :: r := by
   cases h : bs.drop a with
   | nil => have := congrArg List.length h; simp at this; omega
   | cons c r => exact ⟨c, r, rfl⟩
  have hrl : r.length + 1 = bs.length - a := by
   have := congrArg List.length hd
   simp at this; omega
  rw [hd] at he
  simp only [unpF] at he
  refine ld_st (x := (a : Int)) 0 H rfl rfl rfl ?_
  refine st_st (x := (a : Int)) 1 H rfl rfl (Nat.le_of_ble_eq_true rfl) fun w H => ?_
  have H := H.front 1
  refine ld_st (x := q) 2 H rfl rfl rfl ?_
  have hq : q.len = vs.length := row_len (H.front 3)
  have hcatch : ∀ (e : Int) (a' : Nat) (w : World), unp bs = ([], a, e) → St W (rdr a8 s a' :: cel a10 [.int .i64 a] 3 :: cel a2 [tSlc.enc q] 65 :: row TV 64 5 q vs :: cel a4 [.int .i64 0] 3 :: cel a6 [.int .i64 0] 34 :: l) w →
    F28_p ⟨a10, 0, none⟩ ⟨a2, 0, none⟩ ⟨a4, 0, none⟩ ⟨a6, 0, none⟩ (fun (r : Slc × Int × Int) w' => r.2.1 = ((unp bs).2.1 : Int) ∧ r.2.2 = (unp bs).2.2 ∧ St W (row TV 64 5 r.1 (unp bs).1 :: l) w') (flt e) w := by
   intro e a' w he H
   refine catch_spec (q := q) (p0 := 0) (e0 := 0) (H.ord [0, 3]).drop.drop ?_
   ·intro w' H
    rw [he]
    exact ⟨rfl, rfl, row_nil TV 64 5 H⟩
  by_cases h1000 : vs.length = 1000
  ·rw [if_pos (by simp; omega)]
   rw [if_pos h1000] at he
   exact hcatch 20 a w he H
  ·rw [if_neg (by simp; omega)]
   rw [if_neg h1000] at he
   refine dr_st H fun w H => ?_
   refine ld_st (x := q) 2 H rfl rfl rfl ?_
   refine value_spec hcap hn (k.app [cel a10 [.int .i64 a] 3, cel a2 [tSlc.enc q] 65, row TV 64 5 q vs, cel a4 [.int .i64 0] 3, cel a6 [.int .i64 0] 34]) ha hd H ?_ ?_
   ·intro e a' w hde H
    rw [hde] at he
    exact hcatch e a' w he H
   ·intro v r' a' w hde ha' hd' H
    rw [hde] at he
    refine ⟨rdat_cel tSlc (H.front 2) rfl rfl, ?_⟩
    refine apl_row (fun _ => rfl) 3 H rfl (by simp; omega) fun q' w H => ?_
    refine st_st (x := q') 3 H rfl rfl (Nat.le_of_ble_eq_true rfl) fun w H => ?_
    have hless := dec1_less hde
    have hr' : r'.length = bs.length - a' := by rw [← hd', List.length_drop]
    simp only [List.length_cons] at hless
    refine hK (bs.length - a') () _ (by omega) ⟨f, a', a, q', vs ++ [v], rfl, ha', by omega, by simp; omega, ?_, H.ord [2, 3, 0, 1]⟩
    rw [he, hd']
    simp only
    have e9 : a + (r.length + 1 - r'.length) = a' := by omega
    rw [e9]
 ·have hae : a = bs.length := by omega
  rw [if_neg (by simp; omega)]
  rw [hae, List.drop_length] at he
  simp only [unpF] at he
  rw [he]
  refine ld_st (x := q) 2 H rfl rfl rfl ?_
  refine st_st (x := q) 2 H rfl rfl (Nat.le_of_ble_eq_true rfl) fun w H => ?_
  refine st_st (x := (0 : Int)) 4 H rfl rfl (Nat.le_of_ble_eq_true rfl) fun w H => ?_
  refine st_st (x := (0 : Int)) 5 H rfl rfl (Nat.le_of_ble_eq_true rfl) fun w H => ?_
  refine idle_spec (args := []) ?_
  refine ld_st (x := q) 2 H rfl rfl rfl ?_
  refine ld_st (x := (0 : Int)) 1 H rfl rfl rfl ?_
  refine ld_st (x := (0 : Int)) 0 H rfl rfl rfl ?_
  refine ⟨rfl, rfl, ?_⟩
  exact (H.ord [0, 1, 2, 3, 4]).drop.drop.drop.drop.drop
end
end Go.Proofs.YtehclfjjjiiieaaGreat.Wire
namespace Go.Proofs.YtehclfjjjiiieaaGreat.Wire
open Go Go.Proofs.YtehclfjjjiiieaaGreat.Cf
set_option linter.unusedVariables false
set_option linter.unusedSimpArgs false
set_option maxRecDepth 100000
structure Fine (vs : List Val) : Prop where
 dom : ∀ v ∈ vs, In v
 ok : ∀ v ∈ vs, okV v = 0
theorem Fine.tail {v : Val} {vs : List Val} (h : Fine (v :: vs)) : Fine vs := ⟨fun x hx => h.dom x (by simp [hx]), fun x hx => h.ok x (by simp [hx])⟩
theorem Fine.app {l m : List Val} (h : Fine l) (k : Fine m) : Fine (l ++ m) := ⟨fun x hx => (List.mem_append.1 hx).elim (h.dom x) (k.dom x), fun x hx => (List.mem_append.1 hx).elim (h.ok x) (k.ok x)⟩
theorem Fine.left {l m : List Val} (h : Fine (l ++ m)) : Fine l := ⟨fun x hx => h.dom x (by simp [hx]), fun x hx => h.ok x (by simp [hx])⟩
theorem Fine.right {l m : List Val} (h : Fine (l ++ m)) : Fine m := ⟨fun x hx => h.dom x (by simp [hx]), fun x hx => h.ok x (by simp [hx])⟩
theorem unpF_step {f a : Nat} {bs r : List UInt8} {l : List Val} {v : Val} (h : dec1 bs = .ok (v, r)) (hl : l.length ≠ 1000) : unpF (f + 1) bs l a = unpF f r (l ++ [v]) (a + (bs.length - r.length)) := by
 cases bs with
 | nil => simp [dec1] at h
 | cons c bs =>
  simp only [unpF, h]
  rw [if_neg hl]
  rfl
theorem unpF_encs : ∀ {vs : List Val} {f a : Nat} {rest : List UInt8} {l : List Val}, Fine vs → l.length + vs.length ≤ 1000 → unpF (f + vs.length) (encs vs ++ rest) l a = unpF f rest (l ++ vs.map canon) (a + (encs vs).length)
 | [], f, a, rest, l, _, _ => by simp [encs]
 | v :: vs, f, a, rest, l, h, hl => by
  have hv := h.ok v (by simp)
  have hi := h.dom v (by simp)
  simp only [List.length_cons] at hl
  have e : encs (v :: vs) ++ rest = enc1 v ++ (encs vs ++ rest) := by simp [encs]
  have hd : dec1 (encs (v :: vs) ++ rest) = .ok (canon v, encs vs ++ rest) := by rw [e]; exact dec1_enc1 hi hv _
  rw [show f + (v :: vs).length = (f + vs.length) + 1 from by simp; omega, unpF_step hd (by omega), unpF_encs h.tail (by simp; omega)]
  have e2 : (encs (v :: vs) ++ rest).length - (encs vs ++ rest).length = (enc1 v).length := by rw [e]; simp only [List.length_append]; omega
  have e3 : (encs (v :: vs)).length = (enc1 v).length + (encs vs).length := by simp [encs]
  rw [e2, e3, Nat.add_assoc]
  simp
theorem encs_ge : ∀ vs : List Val, vs.length ≤ (encs vs).length
 | [] => by simp
 | v :: vs => by
  have := encs_ge vs
  simp only [encs, List.flatMap_cons, List.length_append, List.length_cons] at *
  have : 1 ≤ (enc1 v).length := by simp [enc1]
  omega
theorem unp_encs_rest {vs : List Val} {rest : List UInt8} (h : Fine vs) (hl : vs.length ≤ 1000) : ∃ f, rest.length < f ∧ unp (encs vs ++ rest) = unpF f rest (vs.map canon) (encs vs).length := by
 refine ⟨(encs vs ++ rest).length + 1 - vs.length, ?_, ?_⟩
 ·have := encs_ge vs
  rw [List.length_append]; omega
 ·have := encs_ge vs
  have e : (encs vs ++ rest).length + 1 = ((encs vs ++ rest).length + 1 - vs.length) + vs.length := by rw [List.length_append]; omega
  unfold unp
  rw [e, unpF_encs h (by simp; omega)]
  simp
theorem unp_encs {vs : List Val} (h : Fine vs) (hl : vs.length ≤ 1000) : unp (encs vs) = (vs.map canon, 0, 0) := by
 obtain ⟨f, hf, he⟩ := unp_encs_rest (rest := []) h hl
 rw [List.append_nil] at he
 rw [he]
 obtain ⟨g, rfl⟩ : ∃ g, f = g + 1 := ⟨f - 1, by omega⟩
 rfl
theorem rdNum_err : ∀ {bs : List UInt8} {k acc : Nat} {e : Int}, rdNum bs k acc = .error e → e ≠ 0
 | [], k, acc, e, h => by simp [rdNum] at h; omega
 | c :: bs, k, acc, e, h => by
  simp only [rdNum] at h
  split at h
  ·simp at h; omega
  ·split at h
   ·cases h
   ·exact rdNum_err h
theorem rdBe_err : ∀ {i acc : Nat} {bs : List UInt8} {e : Int}, rdBe i acc bs = .error e → e ≠ 0
 | 0, _, _, _, h => by simp [rdBe] at h
 | i + 1, acc, [], e, h => by simp [rdBe] at h; omega
 | i + 1, acc, c :: bs, e, h => rdBe_err (by simpa only [rdBe] using h)
theorem dec1_err {bs : List UInt8} {e : Int} (h : dec1 bs = .error e) : e ≠ 0 := by
 cases bs with
 | nil => simp [dec1] at h; omega
 | cons c bs =>
  simp only [dec1] at h
  split at h
  ·split at h
   ·rename_i h1; injection h with h; subst h; exact rdNum_err h1
   ·cases h
  ·split at h
   ·split at h
    ·rename_i h1; injection h with h; subst h; exact rdNum_err h1
    ·cases h
   ·split at h
    ·split at h
     ·rename_i h1; injection h with h; subst h; exact rdBe_err h1
     ·split at h
      ·simp at h; omega
      ·cases h
    ·split at h
     ·split at h
      ·rename_i h1; injection h with h; subst h; exact rdNum_err h1
      ·split at h
       ·simp at h; omega
       ·split at h
        ·simp at h; omega
        ·cases h
     ·simp at h; omega
theorem unpF_sound : ∀ {f a : Nat} {bs : List UInt8} {l m : List Val} {p : Nat}, bs.length < f → l.length ≤ 1000 → unpF f bs l a = (m, p, 0) → ∃ ls, m = l ++ ls ∧ Fine ls ∧ (∀ v ∈ ls, canon v = v) ∧ bs = encs ls ∧ m.length ≤ 1000 ∧ p = 0
 | 0, _, _, _, _, _, h, _, _ => by omega
 | f + 1, a, [], l, m, p, _, hl, h => by
  simp only [unpF, Prod.mk.injEq] at h
  obtain ⟨rfl, rfl, _⟩ := h
  exact ⟨[], by simp, ⟨by simp, by simp⟩, by simp, rfl, hl, rfl⟩
 | f + 1, a, c :: bs, l, m, p, hf, hl, h => by
  simp only [unpF] at h
  split at h
  ·simp at h
  ·rename_i h1
   split at h
   ·rename_i e he
    simp only [Prod.mk.injEq] at h
    exact absurd h.2.2 (dec1_err he)
   ·rename_i v r hd
    have hless := dec1_less hd
    obtain ⟨g1, g2, g3, g4⟩ := dec1_sound hd
    obtain ⟨ls, k1, k2, k3, k4, k5, k6⟩ := unpF_sound (by simp at hf hless; omega) (by simp; omega) h
    refine ⟨v :: ls, by rw [k1]; simp, ⟨fun x hx => ?_, fun x hx => ?_⟩, fun x hx => ?_, by rw [g4, k4]; simp [encs], k5, k6⟩
    ·rcases List.mem_cons.1 hx with rfl | hx
     ·exact g1
     ·exact k2.dom x hx
    ·rcases List.mem_cons.1 hx with rfl | hx
     ·exact g2
     ·exact k2.ok x hx
    ·rcases List.mem_cons.1 hx with rfl | hx
     ·exact g3
     ·exact k3 x hx
theorem unp_sound {bs : List UInt8} {m : List Val} (h : (unp bs).2.2 = 0) (hm : (unp bs).1 = m) : Fine m ∧ (∀ v ∈ m, canon v = v) ∧ bs = encs m ∧ m.length ≤ 1000 := by
 obtain ⟨ls, k1, k2, k3, k4, k5, k6⟩ := unpF_sound (f := bs.length + 1) (a := 0) (bs := bs) (l := []) (m := m) (p := (unp bs).2.1) (by omega) (by simp) (by
  show unp bs = _
  rw [← h, ← hm])
 rw [List.nil_append] at k1
 subst k1
 exact ⟨k2, k3, k4, k5⟩
end Go.Proofs.YtehclfjjjiiieaaGreat.Wire
namespace Go.Proofs.YtehclfjjjiiieaaGreat.Store
open Go Go.Proofs.YtehclfjjjiiieaaGreat.Cf
set_option linter.unusedVariables false
set_option linter.unusedSimpArgs false
set_option maxRecDepth 100000
structure Row where
 T_ : Int
 X : S122
structure Md where
 rows : List Row
 closed : Int
 mark : Int
def vs (L : List Row) (k : Int) : List S117 := (L.filter fun r => r.X.Key == k).map fun r => ⟨r.T_, r.X.V⟩
def upto (l : List S117) (at_ : Int) : List S117 := l.filter fun v => decide (v.T_ ≤ at_)
def cnt (l : List S117) (at_ : Int) : Option S117 := (upto l at_).getLast?
def timeM (m : Md) (at_ : Int) : Int := if at_ < 0 ∨ at_ > 1125899906842624 then 120 else if at_ > m.closed then 128 else if at_ < m.mark then 126 else 0
def lastV (l : List S117) : S117 × Bool := (l.getLast?.getD ⟨0, 0⟩, l.getLast?.isSome)
def whyL (L : List Row) (t : Int) : List Int → List S122 → Int
 | _, [] => 0
 | seen, x :: xs => if x.Key < 0 ∨ x.Key > 8191 then 123 else if x.Key ∈ seen then 124 else if (lastV (vs L x.Key)).1.T_ ≥ t then 121 else if 10000 ≤ (vs L x.Key).length then 125 else whyL L t (seen ++ [x.Key]) xs
def putE (m : Md) (t : Int) (l : List S122) : Int :=
 if t < 1 ∨ t > 1125899906842624 then 120 else if t ≤ m.closed then 121 else if l.length > 100 then 122 else whyL m.rows t [] l
def news (t : Int) (l : List S122) : List Row := l.map fun x => ⟨t, x⟩
def putM (m : Md) (t : Int) (l : List S122) : Md := if putE m t l = 0 then { m with rows := m.rows ++ news t l } else m
def closeE (t : Int) : Int := if t < 0 ∨ t > 1125899906842624 then 120 else 0
def closeM (m : Md) (t : Int) : Md := if closeE t = 0 then { m with closed := max m.closed t } else m
def gone (mark : Int) (r : Row) (L : List Row) : Bool := L.any fun q => (q.X.Key == r.X.Key) && decide (q.T_ ≤ mark)
def keep (mark : Int) : List Row → List Row
 | [] => []
 | r :: L => if gone mark r L = true then keep mark L else r :: keep mark L
def keepV (mark : Int) : List S117 → List S117
 | [] => []
 | v :: l => if l.any (fun q => decide (q.T_ ≤ mark)) = true then keepV mark l else v :: keepV mark l
def pruneE (m : Md) (t : Int) : Int := if t < 0 ∨ t > 1125899906842624 then 120 else if t > m.closed then 128 else 0
def pruneM (m : Md) (t : Int) : Md := if pruneE m t = 0 then ⟨keep (max m.mark t) m.rows, m.closed, max m.mark t⟩ else m
structure Keys (L : List Row) (ks : List Int) : Prop where
 rise : ks.Pairwise fun x y => x < y
 all : ∀ k, k ∈ ks ↔ vs L k ≠ []
def snapK (L : List Row) (at_ : Int) (ks : List Int) : List S122 := ks.filterMap fun k => (cnt (vs L k) at_).map fun v => ⟨k, v.V⟩
structure Inv (m : Md) : Prop where
 cap : ∀ k, (vs m.rows k).length ≤ 10000
 key : ∀ r ∈ m.rows, 0 ≤ r.X.Key ∧ r.X.Key ≤ 8191
 time : ∀ r ∈ m.rows, 1 ≤ r.T_ ∧ r.T_ ≤ 1125899906842624
 rise : m.rows.Pairwise fun a b => a.X.Key = b.X.Key → a.T_ < b.T_
 mark : 0 ≤ m.mark ∧ m.mark ≤ m.closed ∧ m.closed ≤ 1125899906842624
def Rise (l : List S117) : Prop := l.Pairwise fun a b => a.T_ < b.T_
theorem vs_app (L M : List Row) (k : Int) : vs (L ++ M) k = vs L k ++ vs M k := by simp [vs]
theorem vs_nil (k : Int) : vs [] k = [] := rfl
theorem vs_cons (r : Row) (L : List Row) (k : Int) : vs (r :: L) k = if r.X.Key = k then ⟨r.T_, r.X.V⟩ :: vs L k else vs L k := by
 unfold vs
 by_cases h : r.X.Key = k
 ·rw [if_pos h, List.filter_cons_of_pos (by simpa using h)]; rfl
 ·rw [if_neg h, List.filter_cons_of_neg (by simpa using h)]
theorem vs_mem {L : List Row} {k : Int} {v : S117} (h : v ∈ vs L k) : ∃ r ∈ L, r.X.Key = k ∧ r.T_ = v.T_ ∧ r.X.V = v.V := by
 unfold vs at h
 obtain ⟨r, hr, rfl⟩ := List.mem_map.1 h
 obtain ⟨h1, h2⟩ := List.mem_filter.1 hr
 exact ⟨r, h1, by simpa using h2, rfl, rfl⟩
theorem vs_ne {L : List Row} {k : Int} : vs L k ≠ [] ↔ ∃ r ∈ L, r.X.Key = k := by
 constructor
 ·intro h
  obtain ⟨v, hv⟩ := List.exists_mem_of_ne_nil _ h
  obtain ⟨r, h1, h2, _⟩ := vs_mem hv
  exact ⟨r, h1, h2⟩
 ·rintro ⟨r, h1, h2⟩ h
  have : (⟨r.T_, r.X.V⟩ : S117) ∈ vs L k := List.mem_map.2 ⟨r, List.mem_filter.2 ⟨h1, by simpa using h2⟩, rfl⟩
  rw [h] at this; cases this
theorem vs_rise {L : List Row} (h : L.Pairwise fun a b => a.X.Key = b.X.Key → a.T_ < b.T_) (k : Int) : Rise (vs L k) := by
 unfold vs Rise
 rw [List.pairwise_map]
 have h1 := h.filter (p := fun r => r.X.Key == k)
 refine List.Pairwise.imp_of_mem ?_ h1
 intro a b ha hb hab
 have ha := (List.mem_filter.1 ha).2
 have hb := (List.mem_filter.1 hb).2
 simp only [beq_iff_eq] at ha hb
 exact hab (ha.trans hb.symm)
theorem keep_any (mark : Int) (r : Row) (L : List Row) : gone mark r L = (vs L r.X.Key).any fun q => decide (q.T_ ≤ mark) := by
 unfold gone vs
 rw [List.any_map, List.any_filter]
 rfl
theorem vs_keep (mark : Int) (k : Int) : ∀ L : List Row, vs (keep mark L) k = keepV mark (vs L k)
 | [] => rfl
 | r :: L => by
  have ih := vs_keep mark k L
  rw [vs_cons]
  unfold keep
  by_cases h : r.X.Key = k
  ·rw [if_pos h]
   have hg : gone mark r L = (vs L k).any fun q => decide (q.T_ ≤ mark) := by rw [keep_any, h]
   rw [keepV, ← hg]
   split
   ·exact ih
   ·rw [vs_cons, if_pos h, ih]
  ·rw [if_neg h]
   split
   ·exact ih
   ·rw [vs_cons, if_neg h, ih]
theorem keepV_none {mark : Int} : ∀ {b : List S117}, (∀ v ∈ b, ¬ v.T_ ≤ mark) → keepV mark b = b
 | [], _ => rfl
 | v :: b, h => by
  have hn : ¬ b.any (fun q => decide (q.T_ ≤ mark)) = true := by
   rw [List.any_eq_true]
   rintro ⟨q, hq, hd⟩
   exact h q (List.mem_cons_of_mem _ hq) (by simpa using hd)
  rw [keepV, if_neg hn, keepV_none fun v hv => h v (List.mem_cons_of_mem _ hv)]
theorem keepV_app {mark : Int} {b : List S117} (hb : ∀ v ∈ b, ¬ v.T_ ≤ mark) : ∀ {a : List S117}, (∀ v ∈ a, v.T_ ≤ mark) → keepV mark (a ++ b) = a.drop (a.length - 1) ++ b
 | [], _ => by simpa using keepV_none hb
 | [v], h => by
  have hn : ¬ b.any (fun q => decide (q.T_ ≤ mark)) = true := by
   rw [List.any_eq_true]
   rintro ⟨q, hq, hd⟩
   exact hb q hq (by simpa using hd)
  show keepV mark (v :: b) = _
  rw [keepV, if_neg hn, keepV_none hb]; rfl
 | v :: u :: a, h => by
  have hn : (u :: a ++ b).any (fun q => decide (q.T_ ≤ mark)) = true :=
   List.any_eq_true.2 ⟨u, by simp, by simpa using h u (by simp)⟩
  show keepV mark (v :: (u :: a ++ b)) = _
  rw [keepV, if_pos hn, keepV_app hb fun v hv => h v (List.mem_cons_of_mem _ hv)]
  simp
structure Place (l : List S117) (at_ : Int) (j : Nat) : Prop where
 le : j ≤ l.length
 lo : ∀ v ∈ l.take j, v.T_ ≤ at_
 hi : ∀ v ∈ l.drop j, ¬ v.T_ ≤ at_
theorem Place.upto {l : List S117} {at_ : Int} {j : Nat} (h : Place l at_ j) : upto l at_ = l.take j := by
 unfold Store.upto
 conv => lhs; rw [← List.take_append_drop j l]
 rw [List.filter_append, List.filter_eq_self.2 fun v hv => by simpa using h.lo v hv, List.filter_eq_nil_iff.2 fun v hv => by simpa using h.hi v hv, List.append_nil]
theorem Place.keep {l : List S117} {at_ : Int} {j : Nat} (h : Place l at_ j) : keepV at_ l = l.drop (j - 1) := by
 conv => lhs; rw [← List.take_append_drop j l]
 rw [keepV_app h.hi h.lo, List.length_take, Nat.min_eq_left h.le]
 conv => rhs; rw [← List.take_append_drop j l]
 rw [List.drop_append_of_le_length (by rw [List.length_take, Nat.min_eq_left h.le]; omega)]
theorem Place.cnt0 {l : List S117} {at_ : Int} (h : Place l at_ 0) : cnt l at_ = none := by unfold cnt; rw [h.upto]; rfl
theorem Place.cnt {l : List S117} {at_ : Int} {j : Nat} (h : Place l at_ (j + 1)) : cnt l at_ = l[j]? := by
 unfold Store.cnt; rw [h.upto, List.getLast?_take, if_neg (by omega)]
 have := h.le
 rw [show j + 1 - 1 = j from rfl, List.getElem?_eq_getElem (by omega)]; rfl
theorem keep_sub (mark : Int) : ∀ L : List Row, (keep mark L).Sublist L
 | [] => List.Sublist.refl _
 | r :: L => by
  have := keep_sub mark L
  unfold keep; split
  ·exact this.cons _
  ·exact this.cons_cons _
theorem keepV_nil {mark : Int} {l : List S117} (hl : Rise l) : keepV mark l = [] ↔ l = [] := by
 constructor
 ·intro h
  induction l with
  | nil => rfl
  | cons v l ih =>
   unfold keepV at h
   split at h
   ·rename_i hc
    have := ih (List.pairwise_cons.1 hl).2 h
    subst this; simp at hc
   ·cases h
 ·rintro rfl; rfl
theorem Keys.uniq {L M : List Row} {ks js : List Int} (h : Keys L ks) (h2 : Keys M js) (he : ∀ k, vs L k ≠ [] ↔ vs M k ≠ []) : ks = js := by
 have hp : ks.Perm js := (List.perm_ext_iff_of_nodup (h.rise.imp fun h => Int.ne_of_lt h) (h2.rise.imp fun h => Int.ne_of_lt h)).2 fun k => by rw [h.all, h2.all, he]
 exact hp.eq_of_pairwise (fun a b _ _ h1 h2 => by omega) h.rise h2.rise
end Go.Proofs.YtehclfjjjiiieaaGreat.Store
namespace Go.Proofs.YtehclfjjjiiieaaGreat.Store
open Go Go.Proofs.YtehclfjjjiiieaaGreat.Cf
set_option linter.unusedVariables false
set_option linter.unusedSimpArgs false
set_option maxRecDepth 100000
section
variable {W w : World} {l l' : List Assn}
structure ChP where
 b : Nat
 s : Slc
 mark : Int
def chainA (C : ChP) (L : List S117) : Assn := sepA [cel C.b (T198.cells ⟨C.s, C.mark⟩) 199, row T117 118 2 C.s L]
theorem chain_open {C : ChP} {L : List S117} (H : St W (chainA C L :: l) w) : St W (cel C.b (T198.cells ⟨C.s, C.mark⟩) 199 :: row T117 118 2 C.s L :: l) w := H.open_
theorem chain_shut {C : ChP} {L : List S117} (H : St W (cel C.b (T198.cells ⟨C.s, C.mark⟩) 199 :: row T117 118 2 C.s L :: l) w) : St W (chainA C L :: l) w :=
 St.shut (l' := [cel C.b (T198.cells ⟨C.s, C.mark⟩) 199, row T117 118 2 C.s L]) H
theorem chnew_spec (H : St W l w) : cl Tryz.prog 90 [] tPtr w fun r w' => ∃ b, r = some ⟨b, 0, none⟩ ∧ St W (chainA ⟨b, nilS, 0⟩ [] :: l) w' := by
 refine F90_ok ?_
 unfold F90
 refine nw_st H fun b w1 H => ?_
 exact ⟨b, rfl, chain_shut ((row_nil T117 118 2 H).front 1)⟩
theorem chlast_spec {C : ChP} {L : List S117} (hm : L.length ≤ 1000000) (H : St W (chainA C L :: l) w) : cl Tryz.prog 88 [.pointer (some ⟨C.b, 0, none⟩)] (tTup2 T117 tBool) w fun r w' => r = lastV L ∧ St W (chainA C L :: l) w' := by
 refine F88_ok ?_
 unfold F88
 refine nw_st H fun b w1 H => ?_
 have H := chain_open (H.front 1)
 have hs := row_len (H.front 1)
 refine nc_st rfl ?_
 refine ld_st (x := C.s) 0 H rfl rfl rfl ?_
 split
 ·rename_i hc
  have hc : L = [] := List.length_eq_zero_iff.1 (by simp at hc; omega)
  subst hc
  refine vst_st (x := Z117) (y := (⟨0, 0⟩ : S117)) len118 2 H rfl fun w2 H => ?_
  refine vld_st (x := (⟨0, 0⟩ : S117)) 0 H rfl ?_
  exact ⟨rfl, chain_shut H.drop⟩
 ·rename_i hc
  have hc : 0 < L.length := by simp at hc; omega
  have e : IntKind.i64.wrap (((C.s.len : Int)) - 1) = (L.length : Int) - 1 := by rw [hs]; exact wrap_i64 (by omega) (by omega)
  refine dr_st H fun w2 H => ?_
  refine ld_st (x := C.s) 0 H rfl rfl rfl ?_
  refine ld_st (x := C.s) 0 H rfl rfl rfl ?_
  rw [e]
  obtain ⟨a, ha⟩ := row_ix (sz := 2) (i := (L.length : Int) - 1) (H.front 1) (by omega) (by omega)
  have hx : L[((L.length : Int) - 1).toNat]? = some L[((L.length : Int) - 1).toNat] := List.getElem?_eq_getElem (by omega)
  refine ex_i a ha ?_
  refine ex_i _ (rd_row (fun _ => rfl) ha hx (H.front 1)) ?_
  have hl : L.getLast? = some L[((L.length : Int) - 1).toNat] := by rw [← hx, List.getLast?_eq_getElem?]; congr 1; omega
  generalize L[((L.length : Int) - 1).toNat] = x at hl
  refine vst_st (x := Z117) (y := x) len118 2 H rfl fun w3 H => ?_
  refine vld_st (x := x) 0 H rfl ?_
  refine ⟨?_, chain_shut H.drop⟩
  unfold lastV; rw [hl]; rfl
theorem chlist_spec {C : ChP} {L : List S117} (hm : L.length ≤ 1000000) (H : St W (chainA C L :: l) w) : cl Tryz.prog 140 [.pointer (some ⟨C.b, 0, none⟩)] tSlc w fun r w' => St W (row T117 118 2 r L :: chainA C L :: l) w' := by
 refine F140_ok ?_
 unfold F140
 have H := chain_open H
 have hs := row_len (H.front 1)
 refine nc_st rfl ?_
 refine ld_st (x := C.s) 0 H rfl rfl rfl ?_
 rw [hs]
 refine mkS_st (sz := 2) (by omega) (by omega) (by omega) H fun b w1 H => ?_
 refine ld_st (x := C.s) 1 H rfl rfl rfl ?_
 refine cpy_st (fun _ => rfl) H (RdO_row (H.front 2)) (by simp) fun w2 H => ?_
 exact (chain_shut ((H.front 1).ord [0, 2])).front 1
theorem search_spec {n : Int} {fv : Fv} {pr : Int → Bool} (h0 : 0 ≤ n) (h1 : n ≤ 1000000) (hfv : ∀ (w : World) (i : Int), 0 ≤ i → i < n → St W l w → clv Tryz.prog fv [.int .i64 i] tBool w fun r w' => r = pr i ∧ St W l w')
  (hmono : ∀ i j, 0 ≤ i → i ≤ j → j < n → pr i = true → pr j = true) (H : St W l w) :
  cl Tryz.prog 152 [.int .i64 n, fv.enc] (tInt .i64) w fun r w' => 0 ≤ r ∧ r ≤ n ∧ (∀ i, 0 ≤ i → i < r → pr i = false) ∧ (∀ i, r ≤ i → i < n → pr i = true) ∧ St W l w' := by
 refine F152_ok ?_
 unfold F152
 refine lp_i (fun p w => 0 ≤ p.1 ∧ p.1 ≤ p.2 ∧ p.2 ≤ n ∧ (∀ i, 0 ≤ i → i < p.1 → pr i = false) ∧ (∀ i, p.2 ≤ i → i < n → pr i = true) ∧ St W l w) (fun p => (p.2 - p.1).toNat)
  ⟨Int.le_refl 0, h0, Int.le_refl _, fun i h1 h2 => by simp only at h2; omega, fun i h1 h2 => by simp only at h1; omega, H⟩ ?_
 rintro ⟨i, j⟩ w ⟨a0, a1, a2, a3, a4, H⟩
 simp only at a0 a1 a2 a3 a4
 simp only
 unfold F152_l1
 split
 ·rename_i hc
  have hc : i < j := by simpa using hc
  have e0 : IntKind.i64.wrap (i + j) = i + j := wrap_i64 (by omega) (by omega)
  have e1 : IntKind.u64.wrap (i + j) = i + j := by
   unfold IntKind.wrap
   simp [IntKind.bits, IntKind.signed]
   omega
  have e2 : Int.fdiv (i + j) (2 ^ (min ((1 : Int)).toNat IntKind.u64.bits)) = (i + j) / 2 := by
   have : (2 : Int) ^ (min ((1 : Int)).toNat IntKind.u64.bits) = 2 := rfl
   rw [this, Int.fdiv_eq_ediv_of_nonneg _ (by omega)]
  rw [e0, e1, e2]
  refine ex_i ((i + j) / 2) ⟨by omega, rfl⟩ ?_
  have e3 : IntKind.i64.wrap ((i + j) / 2) = (i + j) / 2 := wrap_i64 (by omega) (by omega)
  have e4 : IntKind.i64.wrap ((i + j) / 2 + 1) = (i + j) / 2 + 1 := wrap_i64 (by omega) (by omega)
  rw [e3, e4]
  obtain ⟨g, c, hg, hen, h⟩ := hfv w ((i + j) / 2) (by omega) (by omega) H
  refine ⟨g, c, hg, hen, cl_mono h ?_⟩
  rintro r w1 ⟨rfl, H⟩
  show if (!pr ((i + j) / 2)) = true then _ else _
  split
  ·rename_i hr
   have hr : pr ((i + j) / 2) = false := by simpa using hr
   refine ⟨⟨by simp only; omega, by simp only; omega, a2, fun x h1 h2 => ?_, a4, H⟩, by simp only; omega⟩
   simp only at h2
   cases hp : pr x with
   | false => rfl
   | true => rw [hmono x ((i + j) / 2) h1 (by omega) (by omega) hp] at hr; cases hr
  ·rename_i hr
   have hr : pr ((i + j) / 2) = true := by simpa using hr
   refine ⟨⟨a0, by simp only; omega, by simp only; omega, a3, fun x h1 h2 => ?_, H⟩, by simp only; omega⟩
   simp only at h1
   exact hmono ((i + j) / 2) x (by omega) (by omega) h2 hr
 ·rename_i hc
  have hc : i = j := by simp at hc; omega
  subst hc
  exact ⟨a0, a2, a3, a4, H⟩
theorem place_spec {C : ChP} {L : List S117} {at_ : Int} (hm : L.length ≤ 1000000) (hr : Rise L) (H : St W (chainA C L :: l) w) : cl Tryz.prog 137 [.pointer (some ⟨C.b, 0, none⟩), .int .i64 at_] (tInt .i64) w fun r w' => ∃ j : Nat, r = j ∧ Place L at_ j ∧ St W (chainA C L :: l) w' := by
 refine F137_ok ?_
 unfold F137
 refine nw_st H fun b1 w1 H => ?_
 refine nw_st H fun b2 w2 H => ?_
 have H := chain_open (H.front 2)
 have hs := row_len (H.front 1)
 refine ld_st (x := some ⟨C.b, 0, none⟩) 3 H rfl rfl rfl ?_
 refine nc_st rfl ?_
 refine ld_st (x := C.s) 0 H rfl rfl rfl ?_
 rw [hs]
 refine cl_mono (search_spec (pr := fun i => match L[i.toNat]? with | some v => decide (v.T_ > at_) | none => false) (by omega) (by omega) ?_ ?_ H) ?_
 ·intro w i h0 h1 H
  refine ⟨153, [.pointer (some ⟨b1, 0, none⟩), .pointer (some ⟨b2, 0, none⟩)], rfl, ent153, ?_⟩
  refine F153_ok ?_
  unfold F153
  refine dr_st H fun w3 H => ?_
  refine ld_st (x := some ⟨C.b, 0, none⟩) 3 H rfl rfl rfl ?_
  refine nc_st rfl ?_
  refine ld_st (x := C.s) 0 H rfl rfl rfl ?_
  obtain ⟨a, ha⟩ := row_ix (sz := 2) (i := i) (H.front 1) h0 (by omega)
  have hx : L[i.toNat]? = some L[i.toNat] := List.getElem?_eq_getElem (by omega)
  refine ex_i a ha ?_
  refine ex_i L[i.toNat].T_ (fld_row (fun _ => rfl) ha hx rfl (H.front 1)) ?_
  refine ld_st (x := at_) 2 H rfl rfl rfl ?_
  refine ⟨?_, H⟩
  rw [hx]
 ·intro i j h0 h1 h2 h3
  have hx : L[i.toNat]? = some L[i.toNat] := List.getElem?_eq_getElem (by omega)
  have hy : L[j.toNat]? = some L[j.toNat] := List.getElem?_eq_getElem (by omega)
  simp only [hx, hy, decide_eq_true_eq] at h3 ⊢
  rcases Int.lt_or_eq_of_le h1 with h | h
  ·have := List.pairwise_iff_getElem.1 hr i.toNat j.toNat (by omega) (by omega) (by omega)
   omega
  ·subst h; exact h3
 ·rintro r w3 ⟨r0, r1, r2, r3, H⟩
  refine ⟨r.toNat, by omega, ⟨by omega, ?_, ?_⟩, ?_⟩
  ·intro v hv
   obtain ⟨i, hi, rfl⟩ := List.mem_take_iff_getElem.1 hv
   have := r2 i (by omega) (by omega)
   rw [show ((i : Int)).toNat = i from rfl, List.getElem?_eq_getElem (by omega)] at this
   simp at this; omega
  ·intro v hv
   obtain ⟨i, hi, rfl⟩ := List.mem_drop_iff_getElem.1 hv
   have := r3 (r + i) (by omega) (by omega)
   rw [show (r + (i : Int)).toNat = r.toNat + i from by omega, List.getElem?_eq_getElem (by omega)] at this
   simp at this; omega
  ·exact chain_shut ((H.ord [3, 2]).drop.drop)
theorem chget_spec {C : ChP} {L : List S117} {at_ : Int} (hm : L.length ≤ 1000000) (hr : Rise L) (h0 : 0 ≤ at_) (h1 : at_ ≤ 1125899906842624) (h2 : C.mark ≤ at_) (H : St W (chainA C L :: l) w) :
  cl Tryz.prog 121 [.pointer (some ⟨C.b, 0, none⟩), .int .i64 at_] (tTup2 T117 (tInt .i64)) w fun r w' => r = (match cnt L at_ with | none => ((⟨0, 0⟩ : S117), (114 : Int)) | some v => (v, 0)) ∧ St W (chainA C L :: l) w' := by
 refine F121_ok ?_
 unfold F121
 refine nw_st H fun b w1 H => ?_
 rw [if_neg (by simp; omega)]
 have H := chain_open (H.front 1)
 have hs := row_len (H.front 1)
 refine nc_st rfl ?_
 refine ld_st (x := C.mark) 0 H rfl rfl rfl ?_
 rw [if_neg (by simp; omega)]
 refine cl_mono (place_spec (at_ := at_) hm hr (chain_shut H)) ?_
 rintro r w2 ⟨j, rfl, hp, H⟩
 have H := chain_open H
 cases j with
 | zero =>
  rw [if_pos (by simp)]
  refine vst_st (x := Z117) (y := (⟨0, 0⟩ : S117)) len118 2 H rfl fun w3 H => ?_
  refine vld_st (x := (⟨0, 0⟩ : S117)) 0 H rfl ?_
  refine ⟨?_, chain_shut H.drop⟩
  rw [hp.cnt0]
 | succ j =>
  rw [if_neg (by simp; omega)]
  have hle := hp.le
  refine ld_st (x := C.s) 0 H rfl rfl rfl ?_
  have e : IntKind.i64.wrap (((j + 1 : Nat) : Int) - 1) = j := by rw [show ((j + 1 : Nat) : Int) - 1 = j from by omega]; exact wrap_i64 (by omega) (by omega)
  rw [e]
  obtain ⟨a, ha⟩ := row_ix (sz := 2) (i := (j : Int)) (H.front 1) (by omega) (by omega)
  have hx : L[((j : Int)).toNat]? = some L[j] := List.getElem?_eq_getElem (by omega)
  refine ex_i a ha ?_
  refine ex_i _ (rd_row (fun _ => rfl) ha hx (H.front 1)) ?_
  have hc : cnt L at_ = some L[j] := by rw [hp.cnt]; exact hx
  generalize L[j] = x at hc
  refine vst_st (x := Z117) (y := x) len118 2 H rfl fun w3 H => ?_
  refine vld_st (x := x) 0 H rfl ?_
  refine ⟨?_, chain_shut H.drop⟩
  rw [hc]
theorem chput_spec {C : ChP} {L : List S117} {t v : Int} (hm : L.length < 10000) (h0 : 1 ≤ t) (h1 : t ≤ 1125899906842624) (h2 : C.mark < t) (h3 : (lastV L).1.T_ < t) (H : St W (chainA C L :: l) w) :
  cl Tryz.prog 91 [.pointer (some ⟨C.b, 0, none⟩), .int .i64 t, .int .i64 v] (tInt .i64) w fun r w' => ∃ s, St W (chainA ⟨C.b, s, C.mark⟩ (L ++ [⟨t, v⟩]) :: l) w' := by
 refine F91_ok ?_
 unfold F91
 rw [if_neg (by simp; omega)]
 refine cl_mono (chlast_spec (by omega) H) ?_
 rintro r w1 ⟨rfl, H⟩
 refine nw_st H fun b w2 H => ?_
 generalize lastV L = q at *
 refine vst_st (x := Z117) (y := q.1) len118 0 H rfl fun w3 H => ?_
 refine ex_i q.1.T_ (fun _ => rdat_cel (tInt .i64) H rfl rfl) ?_
 have H := chain_open (H.front 1)
 have hs := row_len (H.front 1)
 refine ex_i (⟨C.b, 0, none⟩ : Addr) (fun _ => rfl) ?_
 refine ex_i C.mark (fun _ => rdat_cel (tInt .i64) H rfl rfl) ?_
 rw [if_neg (by simp; omega)]
 refine nc_st rfl ?_
 refine ld_st (x := C.s) 0 H rfl rfl rfl ?_
 rw [if_neg (by simp; omega)]
 refine ld_st (x := C.s) 0 H rfl rfl rfl ?_
 refine apl_row (fun _ => rfl) 1 H rfl (by simp; omega) fun s w4 H => ?_
 refine st_st (x := s) 1 H rfl rfl (Nat.le_of_ble_eq_true rfl) fun w5 H => ?_
 exact ⟨s, chain_shut (C := ⟨C.b, s, C.mark⟩) ((H.front 2).drop)⟩
theorem chprune_spec {C : ChP} {L : List S117} {mark : Int} (hm : L.length ≤ 1000000) (hr : Rise L) (h0 : 0 ≤ mark) (h1 : mark ≤ 1125899906842624) (h2 : C.mark ≤ mark) (H : St W (chainA C L :: l) w) :
  cl Tryz.prog 125 [.pointer (some ⟨C.b, 0, none⟩), .int .i64 mark] (tInt .i64) w fun r w' => ∃ s, St W (chainA ⟨C.b, s, mark⟩ (keepV mark L) :: l) w' := by
 refine F125_ok ?_
 unfold F125
 rw [if_neg (by simp; omega)]
 have H := chain_open H
 have hs := row_len (H.front 1)
 refine nc_st rfl ?_
 refine ld_st (x := C.mark) 0 H rfl rfl rfl ?_
 rw [show max C.mark mark = mark from by omega]
 refine st_st (x := mark) 0 H rfl rfl (Nat.le_of_ble_eq_true rfl) fun w1 H => ?_
 have H := chain_shut (C := ⟨C.b, C.s, mark⟩) H
 have H := chain_open H
 refine ld_st (x := mark) 0 H rfl rfl rfl ?_
 refine cl_mono (place_spec (C := ⟨C.b, C.s, mark⟩) (at_ := mark) hm hr (chain_shut H)) ?_
 rintro r w2 ⟨j, rfl, hp, H⟩
 have H := chain_open H
 have hle := hp.le
 refine ld_st (x := C.s) 0 H rfl rfl rfl ?_
 have e : max (IntKind.i64.wrap ((j : Int) - 1)) 0 = ((j - 1 : Nat) : Int) := by rw [wrap_i64 (by omega) (by omega)]; omega
 rw [e, hp.keep]
 have e2 : IntKind.i64.wrap ((C.s.len : Int) - ((j - 1 : Nat) : Int)) = ((L.length - (j - 1) : Nat) : Int) := by rw [hs, wrap_i64 (by omega) (by omega)]; omega
 rw [e2]
 refine mkS_st (sz := 2) (by omega) (by omega) (by omega) H fun b w3 H => ?_
 refine ld_st (x := C.s) 1 H rfl rfl rfl ?_
 have hcap : C.s.len ≤ C.s.cap := row_cap (H.front 2)
 refine sub_st (by omega) (by omega) (by omega) (by omega) fun s1 hs1 => ?_
 have hnew := rdS_sub (fun _ => rfl) hs1 (H.front 2)
 refine cpy_st (fun _ => rfl) H hnew (by simp) fun w4 H => ?_
 refine sub_st (by omega) (by omega) (by omega) (by simp) fun s2 hs2 => ?_
 have e3 : s2 = ⟨some ⟨b, 0, none⟩, L.length - (j - 1), L.length - (j - 1)⟩ := by
  obtain ⟨_, _, _, _, h⟩ := hs2
  rw [h]
  simp only [Int.toNat_natCast]
  congr 1
  split
  ·rfl
  ·rw [Option.map_some, show ((0 : Int).toNat * 2) = 0 from rfl, add_at]
 rw [e3]
 simp only [Int.toNat_natCast] at H
 refine st_st (x := (⟨some ⟨b, 0, none⟩, L.length - (j - 1), L.length - (j - 1)⟩ : Slc)) 1 H rfl rfl (Nat.le_of_ble_eq_true rfl) fun w5 H => ?_
 have H : St W (chainA ⟨C.b, ⟨some ⟨b, 0, none⟩, L.length - (j - 1), L.length - (j - 1)⟩, mark⟩ (L.drop (j - 1)) :: row T117 118 2 C.s L :: l) w5 := chain_shut H
 exact ⟨_, (H.front 1).drop⟩
end
end Go.Proofs.YtehclfjjjiiieaaGreat.Store
namespace Go.Proofs.YtehclfjjjiiieaaGreat.Num
open Go Go.Proofs.YtehclfjjjiiieaaGreat.Cf
set_option linter.unusedVariables false
set_option linter.unusedSimpArgs false
set_option maxRecDepth 100000
theorem f64 : FloatKind.f64.format = Ieee.double := rfl
def mant (f : Nat) : Nat := if f < 4503599627370496 then f else 4503599627370496 + f % 4503599627370496
def expo (f : Nat) : Nat := if f < 4503599627370496 then 0 else f / 4503599627370496 - 1
theorem sw : Ieee.double.signWeight = 9223372036854775808 := by decide
theorem bn : Ieee.double.binade = 4503599627370496 := by decide
theorem ir : Ieee.double.infRung = 9218868437227405312 := by decide
theorem lp_ : Ieee.double.leastPlace = -1074 := by decide
theorem fb_ : Ieee.double.fractionBits = 52 := rfl
theorem read_fin {f : Nat} (h : f < 9218868437227405312) : Ieee.double.read f = .number false (mant f) (-1074 + (expo f : Nat)) := by
 have e1 : (f / 9223372036854775808 % 2 == 1) = false := by rw [Nat.div_eq_of_lt (by omega)]; rfl
 have e2 : f % 9223372036854775808 = f := Nat.mod_eq_of_lt (by omega)
 unfold Ieee.Format.read mant expo
 simp only [sw, bn, ir, lp_, e1, e2]
 by_cases c : f < 4503599627370496
 ·simp only [if_pos c]; rfl
 ·simp only [if_neg c, if_pos h]
theorem read_neg {f : Nat} (h1 : 9223372036854775808 < f) (h2 : f < 18446744073709551616) : (∃ m i, 1 ≤ m ∧ Ieee.double.read f = .number true m i) ∨ Ieee.double.read f = .infinity true ∨ ∃ t, Ieee.double.read f = .nan true t := by
 have e1 : (f / 9223372036854775808 % 2 == 1) = true := by
  have : f / 9223372036854775808 = 1 := by omega
  rw [this]; rfl
 unfold Ieee.Format.read
 simp only [sw, bn, ir, lp_, e1]
 by_cases c1 : f % 9223372036854775808 < 4503599627370496
 ·simp only [if_pos c1]
  exact .inl ⟨_, _, by omega, rfl⟩
 ·simp only [if_neg c1]
  by_cases c2 : f % 9223372036854775808 < 9218868437227405312
  ·simp only [if_pos c2]
   exact .inl ⟨_, _, by omega, rfl⟩
  ·simp only [if_neg c2]
   by_cases c3 : f % 9223372036854775808 = 9218868437227405312
   ·simp only [if_pos c3]
    exact .inr (.inl (by trivial))
   ·simp only [if_neg c3]
    exact .inr (.inr ⟨_, rfl⟩)
theorem read_pos {f : Nat} (h : f < 9223372036854775808) : (∃ m i, Ieee.double.read f = .number false m i) ∨ Ieee.double.read f = .infinity false ∨ ∃ t, Ieee.double.read f = .nan false t := by
 have e1 : (f / 9223372036854775808 % 2 == 1) = false := by
  have : f / 9223372036854775808 = 0 := by omega
  rw [this]; rfl
 unfold Ieee.Format.read
 simp only [sw, bn, ir, lp_, e1]
 by_cases c1 : f % 9223372036854775808 < 4503599627370496
 ·simp only [if_pos c1]
  exact .inl ⟨_, _, rfl⟩
 ·simp only [if_neg c1]
  by_cases c2 : f % 9223372036854775808 < 9218868437227405312
  ·simp only [if_pos c2]
   exact .inl ⟨_, _, rfl⟩
  ·simp only [if_neg c2]
   by_cases c3 : f % 9223372036854775808 = 9218868437227405312
   ·simp only [if_pos c3]
    exact .inr (.inl (by trivial))
   ·simp only [if_neg c3]
    exact .inr (.inr ⟨_, rfl⟩)
theorem cmp_lt {a b : Int} (h : a < b) : compare a b = .lt := Std.compare_eq_lt.2 h
theorem cmp_gt {a b : Int} (h : b < a) : compare a b = .gt := Std.compare_eq_gt.2 h
theorem cmp_ge {a b : Int} (h : b ≤ a) : compare a b ≠ .lt := fun e => by
 have := Std.compare_eq_lt.1 e
 omega
theorem sg_neg {m k : Nat} (h : 1 ≤ m) : Ieee.signed true m k < 0 := by
 unfold Ieee.signed
 rw [if_pos rfl, Nat.shiftLeft_eq]
 have : 1 ≤ m * 2 ^ k := Nat.le_trans h (Nat.le_mul_of_pos_right _ (Nat.two_pow_pos k))
 omega
theorem sg_pos {m k : Nat} : 0 ≤ Ieee.signed false m k := by
 unfold Ieee.signed
 rw [if_neg (by simp)]
 exact Int.natCast_nonneg _
theorem sg_eq (m k : Nat) : Ieee.signed false m k = ((m * 2 ^ k : Nat) : Int) := by
 unfold Ieee.signed
 rw [if_neg (by simp), Nat.shiftLeft_eq]
theorem sg_pos1 {m k : Nat} (h : 1 ≤ m) : 0 < Ieee.signed false m k := by
 rw [sg_eq]
 have : 1 ≤ m * 2 ^ k := Nat.le_trans h (Nat.le_mul_of_pos_right _ (Nat.two_pow_pos k))
 omega
theorem mant_pos {f : Nat} (h : 0 < f) : 1 ≤ mant f := by unfold mant; split <;> omega
theorem read_zero : Ieee.double.read 0 = .number false 0 (-1074) := by rw [read_fin (by omega)]; rfl
theorem lss0_pos {f : Nat} (h : f < 9223372036854775808) : fcmp .lss f 0 = false := by
 unfold fcmp
 rw [f64]
 simp only [Ieee.Format.order, read_zero]
 rcases read_pos h with ⟨m, i, e⟩ | e | ⟨t, e⟩
 ·rw [e]
  simp only [Ieee.Datum.order]
  have : Ieee.signed false 0 (-1074 - min i (-1074)).toNat = 0 := by rw [sg_eq]; simp
  rw [this]
  have hc := cmp_ge (sg_pos (m := m) (k := (i - min i (-1074)).toNat))
  cases hh : compare (Ieee.signed false m (i - min i (-1074)).toNat) 0 with
  | lt => exact absurd hh hc
  | eq => rfl
  | gt => rfl
 ·rw [e]; rfl
 ·rw [e]; rfl
theorem lss0_neg {f : Nat} (h1 : 9223372036854775808 < f) (h2 : f < 18446744073709551616) (hn : fcmp .neq f f = false) : fcmp .lss f 0 = true := by
 unfold fcmp at *
 rw [f64] at *
 simp only [Ieee.Format.order, read_zero] at *
 rcases read_neg h1 h2 with ⟨m, i, hm, e⟩ | e | ⟨t, e⟩
 ·rw [e]
  simp only [Ieee.Datum.order]
  have : Ieee.signed false 0 (-1074 - min i (-1074)).toNat = 0 := by rw [sg_eq]; simp
  rw [this, cmp_lt (sg_neg hm)]
  rfl
 ·rw [e]; rfl
 ·rw [e] at hn
  cases hn
theorem eql0 {f : Nat} (h0 : 0 < f) (h : f < 9218868437227405312) : fcmp .eql f 0 = false := by
 unfold fcmp
 rw [f64]
 simp only [Ieee.Format.order, read_zero, read_fin h, Ieee.Datum.order]
 have : Ieee.signed false 0 (-1074 - min (-1074 + (expo f : Int)) (-1074)).toNat = 0 := by rw [sg_eq]; simp
 rw [this, cmp_gt (sg_pos1 (mant_pos h0))]
 rfl
theorem read_max : Ieee.double.read 9218868437227405311 = .number false 9007199254740991 971 := by rw [read_fin (by omega)]; rfl
theorem max_fin {f : Nat} (h : f ≤ 4611686018427387904) : fcmp .gtr f 9218868437227405311 = false := by
 unfold fcmp
 rw [f64]
 simp only [Ieee.Format.order, read_max, read_fin (show f < 9218868437227405312 by omega), Ieee.Datum.order]
 have he : expo f ≤ 1023 := by unfold expo; split <;> omega
 have hm : mant f < 9007199254740992 := by unfold mant; split <;> omega
 have hmin : min (-1074 + (expo f : Int)) 971 = -1074 + (expo f : Int) := by omega
 rw [hmin, sg_eq, sg_eq]
 have e1 : (-1074 + (expo f : Int) - (-1074 + (expo f : Int))).toNat = 0 := by omega
 obtain ⟨k, hk⟩ : ∃ k, (971 - (-1074 + (expo f : Int))).toNat = k + 1 := ⟨(970 - (-1074 + (expo f : Int))).toNat, by omega⟩
 rw [e1, hk]
 have h2 : 1 ≤ 2 ^ k := Nat.two_pow_pos k
 have h3 : 9007199254740991 * 2 ^ (k + 1) = 9007199254740991 * 2 * 2 ^ k := by rw [Nat.pow_succ]; omega
 have h4 : 9007199254740991 * 2 * 1 ≤ 9007199254740991 * 2 * 2 ^ k := Nat.mul_le_mul_left _ h2
 rw [cmp_lt (by rw [h3]; omega)]
 rfl
theorem lss_sub {f : Nat} (h : f < 4503599627370496) : fcmp .lss f 4503599627370496 = true := by
 have e1 : Ieee.double.read 4503599627370496 = .number false 4503599627370496 (-1074) := by rw [read_fin (by omega)]; rfl
 have e2 : mant f = f := by unfold mant; rw [if_pos h]
 have e3 : expo f = 0 := by unfold expo; rw [if_pos h]
 unfold fcmp
 rw [f64]
 simp only [Ieee.Format.order, e1, read_fin (show f < 9218868437227405312 by omega), Ieee.Datum.order, e2, e3, sg_eq]
 rw [cmp_lt (by simp; omega)]
 rfl
theorem lss_nor {f : Nat} (h0 : 4503599627370496 ≤ f) (h : f < 9218868437227405312) : fcmp .lss f 4503599627370496 = false := by
 have e1 : Ieee.double.read 4503599627370496 = .number false 4503599627370496 (-1074) := by rw [read_fin (by omega)]; rfl
 have e2 : 4503599627370496 ≤ mant f := by unfold mant; rw [if_neg (by omega)]; omega
 unfold fcmp
 rw [f64]
 simp only [Ieee.Format.order, e1, read_fin h, Ieee.Datum.order, sg_eq]
 have hmin : min (-1074 + (expo f : Int)) (-1074) = -1074 := by omega
 rw [hmin]
 have h1 : 4503599627370496 * 2 ^ (-1074 - -1074 : Int).toNat ≤ mant f * 2 ^ (-1074 + (expo f : Int) - -1074).toNat := by
  have : (-1074 - -1074 : Int).toNat = 0 := by decide
  rw [this]
  exact Nat.mul_le_mul e2 (Nat.two_pow_pos _)
 have hc := cmp_ge (Int.ofNat_le.2 h1)
 cases hh : compare ((mant f * 2 ^ (-1074 + (expo f : Int) - -1074).toNat : Nat) : Int) ((4503599627370496 * 2 ^ (-1074 - -1074 : Int).toNat : Nat) : Int) with
 | lt => exact absurd hh hc
 | eq => rfl
 | gt => rfl
theorem cut_exact {n k q : Nat} (h : n = q * 2 ^ k) (hk : k ≤ n.log2 + 2) (neg : Bool) : Ieee.Toward.even.cut neg n k = q := by
 unfold Ieee.Toward.cut
 simp only [Nat.min_eq_left hk, Nat.shiftLeft_eq, Nat.one_mul]
 have hp := Nat.two_pow_pos k
 have e1 : n / 2 ^ k = q := by rw [h]; exact Nat.mul_div_cancel _ hp
 have e2 : n % 2 ^ k = 0 := by rw [h]; exact Nat.mul_mod_left _ _
 rw [e1, e2]
 have e3 : (decide (2 ^ k < 2 * 0) || (2 ^ k == 2 * 0) && q % 2 == 1) = false := by
  have : (2 ^ k == 2 * 0) = false := by
   rw [beq_eq_false_iff_ne]
   omega
  rw [this]
  simp
 rw [e3]
 rfl
theorem mul_one {F : Nat} (h : F < 4503599627370496) : FArith .mul 4607182418800017408 (1075 * 4503599627370496 + F) (1075 * 4503599627370496 + F) := by
 have e1 : Ieee.double.read 4607182418800017408 = .number false 4503599627370496 (-52) := by rw [read_fin (by omega)]; rfl
 have e2 : Ieee.double.read (1075 * 4503599627370496 + F) = .number false (4503599627370496 + F) 0 := by
  rw [read_fin (by omega)]
  have c1 : mant (1075 * 4503599627370496 + F) = 4503599627370496 + F := by unfold mant; rw [if_neg (by omega)]; omega
  have c2 : expo (1075 * 4503599627370496 + F) = 1074 := by unfold expo; rw [if_neg (by omega)]; omega
  rw [c1, c2]; rfl
 unfold FArith floatBits
 rw [f64]
 simp only [Ieee.Format.mul, e1, e2, Ieee.Datum.product, Option.map_some, Ieee.Format.write]
 congr 1
 unfold Ieee.Format.nearest
 have hne : ¬ 4503599627370496 * (4503599627370496 + F) = 0 := by omega
 have hlog : (4503599627370496 * (4503599627370496 + F)).log2 = 104 := by
  rw [Nat.log2_eq_iff hne]
  omega
 rw [if_neg hne]
 simp only [hlog, fb_, lp_, bn, ir]
 have hlast : max ((-52 : Int) + 0 + ((104 : Nat) : Int) - ((52 : Nat) : Int)) (-1074) = 0 := by decide
 rw [hlast]
 have hs1 : ((-52 : Int) + 0 - 0).toNat = 0 := by decide
 have hs2 : ((0 : Int) - (-52 + 0)).toNat = 52 := by decide
 have hs3 : ((0 : Int) - -1074).toNat = 1074 := by decide
 rw [hs1, hs2, hs3, Nat.shiftLeft_zero]
 rw [cut_exact (q := 4503599627370496 + F) (by omega) (by rw [hlog]; omega)]
 show min _ _ = _
 omega
theorem to_int {F : Nat} (h : F < 4503599627370496) : F2I .i64 (1075 * 4503599627370496 + F) ((4503599627370496 + F : Nat) : Int) := by
 have e2 : Ieee.double.read (1075 * 4503599627370496 + F) = .number false (4503599627370496 + F) 0 := by
  rw [read_fin (by omega)]
  have c1 : mant (1075 * 4503599627370496 + F) = 4503599627370496 + F := by unfold mant; rw [if_neg (by omega)]; omega
  have c2 : expo (1075 * 4503599627370496 + F) = 1074 := by unfold expo; rw [if_neg (by omega)]; omega
  rw [c1, c2]; rfl
 unfold F2I floatToIntVal FloatKind.decode
 rw [f64, e2]
 have hcut : Ieee.Toward.zero.cut false ((4503599627370496 + F) <<< (0 : Int).toNat) (-(0 : Int)).toNat = 4503599627370496 + F := by
  unfold Ieee.Toward.cut
  simp
 simp only [Ieee.Datum.toInt, Ieee.Datum.integral, hcut, sg_eq]
 have m1 : IntKind.i64.min = -9223372036854775808 := rfl
 have m2 : IntKind.i64.max = 9223372036854775807 := rfl
 rw [m1, m2]
 simp
 omega
theorem to_int0 : F2I .i64 0 0 ∧ F2I .i64 9223372036854775808 0 := by
 refine ⟨?_, ?_⟩
 ·unfold F2I; rfl
 ·unfold F2I; rfl
theorem sub_log {f k : Nat} (h0 : 0 < f) (h : f < 2 ^ 52) (hk : f.log2 = k) : k < 52 ∧ (f * 2 ^ 52).log2 = k + 52 ∧ 2 ^ 52 ≤ f * 2 ^ (52 - k) ∧ f * 2 ^ (52 - k) < 2 * 2 ^ 52 ∧ f * 2 ^ 52 = f * 2 ^ (52 - k) * 2 ^ k := by
 have hlog := (Nat.log2_eq_iff (Nat.ne_of_gt h0)).1 hk
 have hk52 : k < 52 := by
  apply Classical.byContradiction
  intro hc
  have h1 : 2 ^ 52 ≤ 2 ^ k := Nat.pow_le_pow_right (Nat.zero_lt_succ 1) (Nat.le_of_not_lt hc)
  exact absurd (Nat.lt_of_lt_of_le h h1) (Nat.not_lt_of_le hlog.1)
 obtain ⟨j, hj⟩ : ∃ j, j + k = 52 := ⟨52 - k, by omega⟩
 have hjk : 52 - k = j := by omega
 have hp : (2 : Nat) ^ 52 = 2 ^ j * 2 ^ k := by rw [← Nat.pow_add, hj]
 rw [hjk]
 generalize (2 : Nat) ^ 52 = N at *
 have hN : 0 < N := by rw [hp]; exact Nat.mul_pos (Nat.two_pow_pos _) (Nat.two_pow_pos _)
 refine ⟨hk52, ?_, ?_, ?_, ?_⟩
 ·rw [Nat.log2_eq_iff (Nat.ne_of_gt (Nat.mul_pos h0 hN))]
  have e3 : (2 : Nat) ^ (k + 52) = 2 ^ k * N := by rw [hp, Nat.mul_comm (2 ^ j), ← Nat.mul_assoc, ← Nat.pow_add, ← Nat.pow_add]; congr 1; omega
  have e4 : (2 : Nat) ^ (k + 52 + 1) = 2 ^ (k + 1) * N := by rw [Nat.pow_succ, e3, Nat.pow_succ, Nat.mul_assoc, Nat.mul_assoc, Nat.mul_comm N]
  rw [e3, e4]
  exact ⟨Nat.mul_le_mul_right _ hlog.1, Nat.mul_lt_mul_of_pos_right hlog.2 hN⟩
 ·have := Nat.mul_le_mul_right (2 ^ j) hlog.1
  rw [Nat.mul_comm (2 ^ k), ← hp] at this
  exact this
 ·have := Nat.mul_lt_mul_of_pos_right hlog.2 (Nat.two_pow_pos j)
  have e5 : (2 : Nat) ^ (k + 1) * 2 ^ j = 2 * N := by rw [hp, Nat.pow_succ, Nat.mul_comm (2 ^ j), Nat.mul_comm (2 ^ k) 2, Nat.mul_assoc]
  rw [e5] at this
  exact this
 ·rw [hp, Nat.mul_assoc]
theorem and_not {x m M : Nat} (hx : x < 18446744073709551616) (hm : (~~~ BitVec.ofNat 64 m) = BitVec.ofNat 64 M) (hM : M < 18446744073709551616) : bits .andNot .u64 (x : Int) (m : Int) = ((x &&& M : Nat) : Int) := by
 have hlt : x &&& M < 18446744073709551616 := Nat.lt_of_le_of_lt Nat.and_le_left hx
 simp only [bits, BitVec.ofInt_natCast]
 have : (BitVec.ofNat IntKind.u64.bits x &&& ~~~ BitVec.ofNat IntKind.u64.bits m).toNat = x &&& M := by
  show (BitVec.ofNat 64 x &&& ~~~ BitVec.ofNat 64 m).toNat = x &&& M
  rw [hm, BitVec.toNat_and, BitVec.toNat_ofNat, BitVec.toNat_ofNat, Nat.mod_eq_of_lt hx, Nat.mod_eq_of_lt hM]
 rw [this]
 exact wid_u64 _ (by omega) (by omega)
theorem abs_bits {x : Nat} (hx : x < 18446744073709551616) : bits .andNot .u64 (x : Int) 9223372036854775808 = ((x % 9223372036854775808 : Nat) : Int) := by
 have := and_not (m := 9223372036854775808) (M := 9223372036854775807) hx (by decide) (by omega)
 rw [show ((9223372036854775808 : Nat) : Int) = 9223372036854775808 from rfl] at this
 rw [this]
 have e : x &&& 9223372036854775807 = x % 2 ^ 63 := Nat.and_two_pow_sub_one_eq_mod x 63
 rw [e]
theorem frac_bits {x : Nat} (hx : x < 9223372036854775808) : bits .andNot .u64 (x : Int) 9218868437227405312 = ((x % 4503599627370496 : Nat) : Int) := by
 have := and_not (m := 9218868437227405312) (M := 9227875636482146303) (show x < 18446744073709551616 by omega) (by decide) (by omega)
 rw [show ((9218868437227405312 : Nat) : Int) = 9218868437227405312 from rfl] at this
 rw [this]
 have e0 : x &&& 9223372036854775807 = x % 2 ^ 63 := Nat.and_two_pow_sub_one_eq_mod x 63
 have e1 : x = x &&& 9223372036854775807 := by rw [e0]; omega
 have e2 : x &&& 9227875636482146303 = x &&& 4503599627370495 := by
  conv => lhs; rw [e1]
  rw [Nat.and_assoc]
  rfl
 have e3 : x &&& 4503599627370495 = x % 2 ^ 52 := Nat.and_two_pow_sub_one_eq_mod x 52
 rw [e2, e3]
theorem or_hi {E F : Nat} (hE : E < 2048) (hF : F < 4503599627370496) : bits .or .u64 (F : Int) ((E * 4503599627370496 : Nat) : Int) = ((E * 4503599627370496 + F : Nat) : Int) := by
 have h1 := (bits_nat .u64 64 (by decide) wid_u64 F (E * 4503599627370496) (by omega) (by omega)).2
 have h2 := (bits_nat .u64 64 (by decide) wid_u64 (E * 4503599627370496) F (by omega) (by omega)).2
 rw [h1, Nat.or_comm, ← h2]
 rw [bits_join .u64 64 (by decide) wid_u64 52 _ _ (by omega) (by omega) (by omega) (by omega) (by omega) (by omega)]
 omega
theorem and2047 {x : Int} (h0 : 0 ≤ x) (h1 : x < 2048) : bits .and .u64 x 2047 = x ∧ bits .and .i64 x 2047 = x := by
 constructor
 ·have := bits_mask .u64 64 (by decide) wid_u64 11 (by decide) x h0 (by omega)
  rw [show (2 : Int) ^ 11 - 1 = 2047 from rfl] at this
  rw [this]; omega
 ·have := bits_mask .i64 63 (by decide) (fun n h0 h1 => wrap_i64 (by omega) (by omega)) 11 (by decide) x h0 (by omega)
  rw [show (2 : Int) ^ 11 - 1 = 2047 from rfl] at this
  rw [this]; omega
end Go.Proofs.YtehclfjjjiiieaaGreat.Num
namespace Go.Proofs.YtehclfjjjiiieaaGreat.Num
open Go Go.Proofs.YtehclfjjjiiieaaGreat.Cf
set_option linter.unusedVariables false
set_option linter.unusedSimpArgs false
set_option maxRecDepth 100000
theorem mul_sub {f : Nat} (h0 : 0 < f) (h : f < 4503599627370496) : ∃ z, FArith .mul f 4841369599423283200 z ∧ 4503599627370496 ≤ z ∧ z < 60 * 4503599627370496 := by
 have e1 : Ieee.double.read 4841369599423283200 = .number false 4503599627370496 0 := by rw [read_fin (by omega)]; rfl
 have e2 : Ieee.double.read f = .number false f (-1074) := by
  rw [read_fin (by omega)]
  have c1 : mant f = f := by unfold mant; rw [if_pos h]
  have c2 : expo f = 0 := by unfold expo; rw [if_pos h]
  rw [c1, c2]; rfl
 have hp1 : (2 : Nat) ^ 52 = 4503599627370496 := by decide
 obtain ⟨k, hk⟩ : ∃ k, f.log2 = k := ⟨_, rfl⟩
 obtain ⟨hk52, hlog2, hq1, hq2, hx⟩ := sub_log h0 (by rw [hp1]; exact h) hk
 rw [hp1] at hlog2 hq1 hq2 hx
 generalize f * 2 ^ (52 - k) = q at *
 have hne : ¬ f * 4503599627370496 = 0 := by omega
 refine ⟨k * 4503599627370496 + q, ?_, by omega, by omega⟩
 unfold FArith floatBits
 rw [f64]
 simp only [Ieee.Format.mul, e1, e2, Ieee.Datum.product, Option.map_some, Ieee.Format.write]
 congr 1
 unfold Ieee.Format.nearest
 rw [if_neg hne]
 simp only [hlog2, fb_, lp_, bn, ir]
 have hlast : max ((-1074 : Int) + 0 + ((k + 52 : Nat) : Int) - ((52 : Nat) : Int)) (-1074) = -1074 + (k : Int) := by omega
 rw [hlast]
 have hs1 : ((-1074 : Int) + 0 - (-1074 + (k : Int))).toNat = 0 := by omega
 have hs2 : ((-1074 + (k : Int)) - (-1074 + 0)).toNat = k := by omega
 have hs3 : ((-1074 + (k : Int)) - -1074).toNat = k := by omega
 rw [hs1, hs2, hs3, Nat.shiftLeft_zero]
 rw [cut_exact (q := q) hx (by rw [hlog2]; omega)]
 unfold Ieee.Format.word
 rw [if_neg (by simp)]
 exact Nat.min_eq_left (by omega)
end Go.Proofs.YtehclfjjjiiieaaGreat.Num
namespace Go.Proofs.YtehclfjjjiiieaaGreat.Num
open Go Go.Proofs.YtehclfjjjiiieaaGreat.Cf
set_option linter.unusedVariables false
set_option linter.unusedSimpArgs false
set_option maxRecDepth 100000
theorem ord_self (d : Ieee.Datum) : d.order d = if d.isNaN then none else some .eq := by
 have c1 : ∀ x : Int, compare x x = .eq := fun x => Std.ReflCmp.compare_self
 have c2 : ∀ x : Nat, compare x x = .eq := fun x => Std.ReflCmp.compare_self
 cases d with
 | nan s t => rfl
 | infinity s => simp only [Ieee.Datum.order, c2]; rfl
 | number s m i => simp only [Ieee.Datum.order, c1]; rfl
theorem neq_fin {f : Nat} (h : f < 9218868437227405312) : fcmp .neq f f = false := by
 unfold fcmp
 rw [f64]
 simp only [Ieee.Format.order, ord_self, read_fin h]
 rfl
def rateOk (f : Nat) : Prop := f = 9223372036854775808 ∨ f ≤ 4607182418800017408
section
variable {W w : World} {l l' : List Assn}
theorem abs_spec {f : Nat} (hf : f < 18446744073709551616) (H : St W l w) : cl Tryz.prog 130 [.float .f64 f] tFlt w fun r w' => r = f % 9223372036854775808 ∧ St W l w' := by
 refine F130_ok ?_
 unfold F130
 rw [abs_bits hf, Int.toNat_natCast]
 exact ⟨rfl, H⟩
theorem isnan_spec {f : Nat} (H : St W l w) : cl Tryz.prog 171 [.float .f64 f] tBool w fun r w' => r = fcmp .neq f f ∧ St W l w' := by
 refine F171_ok ?_
 unfold F171
 exact ⟨rfl, H⟩
theorem inf_spec {f : Nat} {s : Int} (hf : f < 18446744073709551616) (H : St W l w) : cl Tryz.prog 105 [.float .f64 f, .int .i64 s] tBool w fun r w' => r = fcmp .gtr (if s = 0 then f % 9223372036854775808 else if s < 0 then Op.negFloat .f64 f else f) 9218868437227405311 ∧ St W l w' := by
 refine F105_ok ?_
 unfold F105 F105_j1
 by_cases c : s = 0
 ·rw [if_pos (by simp [c]), if_pos c]
  refine cl_mono (abs_spec hf H) ?_
  rintro r w ⟨rfl, H⟩
  exact ⟨rfl, H⟩
 ·rw [if_neg (by simpa using c), if_neg c]
  by_cases d : s < 0
  ·rw [if_pos (by simpa using d), if_pos d]
   exact ⟨rfl, H⟩
  ·rw [if_neg (by simpa using d), if_neg d]
   exact ⟨rfl, H⟩
theorem norm_spec {f : Nat} (h0 : 0 < f) (h : f < 9218868437227405312) (H : St W l w) : cl Tryz.prog 172 [.float .f64 f] (tTup2 tFlt (tInt .i64)) w fun r w' => (4503599627370496 ≤ f → r = (f, 0)) ∧ (f < 4503599627370496 → r.2 = -52 ∧ 4503599627370496 ≤ r.1 ∧ r.1 < 60 * 4503599627370496) ∧ St W l w' := by
 refine F172_ok ?_
 unfold F172
 refine cl_mono (abs_spec (by omega) H) ?_
 rintro r w ⟨rfl, H⟩
 rw [Nat.mod_eq_of_lt (by omega)]
 by_cases c : f < 4503599627370496
 ·rw [if_pos (lss_sub c)]
  obtain ⟨z, hz, h1, h2⟩ := mul_sub h0 c
  refine ex_i z hz ?_
  exact ⟨fun h => by omega, fun _ => ⟨rfl, h1, h2⟩, H⟩
 ·rw [if_neg (by rw [lss_nor (by omega) h]; simp)]
  exact ⟨fun _ => rfl, fun h => absurd h c, H⟩
theorem frexp0_spec {f : Nat} (h : f = 0 ∨ f = 9223372036854775808) (H : St W l w) : cl Tryz.prog 167 [.float .f64 f] (tTup2 tFlt (tInt .i64)) w fun r w' => r = (f, 0) ∧ St W l w' := by
 refine F167_ok ?_
 unfold F167
 rw [if_pos (by rcases h with rfl | rfl <;> rfl)]
 exact ⟨rfl, H⟩
theorem ldexp0_spec {f : Nat} {e : Int} (h : f = 0 ∨ f = 9223372036854775808) (H : St W l w) : cl Tryz.prog 169 [.float .f64 f, .int .i64 e] tFlt w fun r w' => r = f ∧ St W l w' := by
 refine F169_ok ?_
 unfold F169
 rw [if_pos (by rcases h with rfl | rfl <;> rfl)]
 exact ⟨rfl, H⟩
theorem shr52 (z : Nat) : Int.fdiv (z : Int) (2 ^ (min ((52 : Int)).toNat IntKind.u64.bits)) = ((z / 4503599627370496 : Nat) : Int) := by
 have : (2 : Int) ^ (min ((52 : Int)).toNat IntKind.u64.bits) = 4503599627370496 := by decide
 rw [this, Int.fdiv_eq_ediv_of_nonneg _ (by omega)]
 omega
theorem frexp_spec {f : Nat} (h0 : 0 < f) (h : f ≤ 4607182418800017408) (H : St W l w) : cl Tryz.prog 167 [.float .f64 f] (tTup2 tFlt (tInt .i64)) w fun r w' => (∃ (F : Nat) (e : Int), r = (1022 * 4503599627370496 + F, e) ∧ F < 4503599627370496 ∧ (4503599627370496 ≤ f → F = f % 4503599627370496 ∧ e = (f / 4503599627370496 : Nat) - 1022) ∧ (f < 4503599627370496 → -1100 ≤ e ∧ e ≤ -1000)) ∧ St W l w' := by
 refine F167_ok ?_
 unfold F167
 rw [if_neg (by rw [eql0 h0 (by omega)]; simp)]
 refine cl_mono (inf_spec (s := 0) (by omega) H) ?_
 rintro r w ⟨rfl, H⟩
 rw [if_pos rfl, Nat.mod_eq_of_lt (by omega), max_fin (by omega), if_neg (by simp)]
 refine cl_mono (isnan_spec H) ?_
 rintro r w ⟨rfl, H⟩
 rw [neq_fin (by omega)]
 unfold F167_j1
 rw [if_neg (by simp)]
 refine cl_mono (norm_spec h0 (by omega) H) ?_
 rintro ⟨z, e⟩ w ⟨h1, h2, H⟩
 have hz : z < 9223372036854775808 := by
  by_cases c : f < 4503599627370496
  ·have := (h2 c).2.2
   simp only at this
   omega
  ·have := h1 (by omega)
   cases this
   omega
 have hE : z / 4503599627370496 < 2048 := by omega
 dsimp only
 rw [shr52 z]
 refine ex_i ((z / 4503599627370496 : Nat) : Int) ⟨by omega, rfl⟩ ?_
 rw [(and2047 (x := ((z / 4503599627370496 : Nat) : Int)) (by omega) (by omega)).1, frac_bits hz]
 have hor := or_hi (E := 1022) (F := z % 4503599627370496) (by omega) (by omega)
 rw [show ((1022 * 4503599627370496 : Nat) : Int) = 4602678819172646912 from rfl] at hor
 rw [hor]
 have w1 : IntKind.i64.wrap ((z / 4503599627370496 : Nat) : Int) = ((z / 4503599627370496 : Nat) : Int) := wrap_i64 (by omega) (by omega)
 have w2 : IntKind.i64.wrap (((z / 4503599627370496 : Nat) : Int) - 1023) = ((z / 4503599627370496 : Nat) : Int) - 1023 := wrap_i64 (by omega) (by omega)
 have w3 : IntKind.i64.wrap (((z / 4503599627370496 : Nat) : Int) - 1023 + 1) = ((z / 4503599627370496 : Nat) : Int) - 1022 := by rw [wrap_i64 (by omega) (by omega)]; omega
 rw [w1, w2, w3]
 have he : e = 0 ∨ e = -52 := by
  by_cases c : f < 4503599627370496
  ·exact .inr (h2 c).1
  ·have := h1 (by omega)
   cases this
   exact .inl rfl
 have w4 : IntKind.i64.wrap (e + (((z / 4503599627370496 : Nat) : Int) - 1022)) = e + (((z / 4503599627370496 : Nat) : Int) - 1022) := wrap_i64 (by omega) (by omega)
 rw [w4]
 refine ⟨⟨z % 4503599627370496, _, by rw [Int.toNat_natCast], by omega, fun hn => ?_, fun hn => ?_⟩, H⟩
 ·have := h1 hn
  cases this
  exact ⟨rfl, by omega⟩
 ·obtain ⟨a, b, c⟩ := h2 hn
  simp only at a b c
  omega
theorem ldexp_spec {F : Nat} (h : F < 4503599627370496) (H : St W l w) : cl Tryz.prog 169 [.float .f64 (1022 * 4503599627370496 + F), .int .i64 53] tFlt w fun r w' => r = 1075 * 4503599627370496 + F ∧ St W l w' := by
 refine F169_ok ?_
 unfold F169
 rw [if_neg (by rw [eql0 (by omega) (by omega)]; simp)]
 refine cl_mono (inf_spec (s := 0) (by omega) H) ?_
 rintro r w ⟨rfl, H⟩
 rw [if_pos rfl, Nat.mod_eq_of_lt (by omega), max_fin (by omega), if_neg (by simp)]
 refine cl_mono (isnan_spec H) ?_
 rintro r w ⟨rfl, H⟩
 rw [neq_fin (by omega)]
 unfold F169_j1
 rw [if_neg (by simp)]
 refine cl_mono (norm_spec (by omega) (by omega) H) ?_
 rintro ⟨z, e⟩ w ⟨h1, _, H⟩
 have := h1 (by omega)
 cases this
 dsimp only
 rw [shr52 (1022 * 4503599627370496 + F)]
 refine ex_i ((1022 : Nat) : Int) ⟨by omega, by congr 1; omega⟩ ?_
 have w1 : IntKind.i64.wrap (((1022 : Nat) : Int)) = 1022 := by decide
 rw [w1, (and2047 (x := 1022) (by omega) (by omega)).2]
 have w2 : IntKind.i64.wrap (IntKind.i64.wrap (53 + 0) + IntKind.i64.wrap (1022 - 1023)) = 52 := by decide
 rw [w2, if_neg (by decide), if_neg (by decide), if_neg (by decide)]
 unfold F169_j2
 have w3 : IntKind.u64.wrap ((IntKind.u64.wrap (IntKind.i64.wrap (52 + 1023))) * 2 ^ (min ((52 : Int)).toNat IntKind.u64.bits)) = 4841369599423283200 := by decide
 rw [w3]
 refine ex_i 4841369599423283200 ⟨by omega, rfl⟩ ?_
 dsimp only
 rw [frac_bits (show 1022 * 4503599627370496 + F < 9223372036854775808 by omega)]
 have e1 : (1022 * 4503599627370496 + F) % 4503599627370496 = F := by omega
 rw [e1]
 have hor := or_hi (E := 1075) (F := F) (by omega) h
 rw [show ((1075 * 4503599627370496 : Nat) : Int) = 4841369599423283200 from rfl] at hor
 rw [hor, Int.toNat_natCast]
 refine ex_i (1075 * 4503599627370496 + F) (mul_one h) ?_
 exact ⟨rfl, H⟩
end
end Go.Proofs.YtehclfjjjiiieaaGreat.Num
namespace Go.Proofs.YtehclfjjjiiieaaGreat.Num
open Go Go.Proofs.YtehclfjjjiiieaaGreat.Cf
set_option linter.unusedVariables false
set_option linter.unusedSimpArgs false
set_option maxRecDepth 100000
theorem negf {f : Nat} (h : f < 9223372036854775808) : Op.negFloat .f64 f = 9223372036854775808 + f := by
 have e : (2 : Nat) ^ (FloatKind.f64.format.exponentBits + FloatKind.f64.format.fractionBits) = 2 ^ 63 := rfl
 unfold Op.negFloat
 rw [e]
 have hf : f < 2 ^ 63 := h
 have e2 : 9223372036854775808 + f = 2 ^ 63 * 1 + f := by omega
 rw [e2]
 apply Nat.eq_of_testBit_eq
 intro j
 rw [Nat.testBit_xor, Nat.testBit_two_pow_mul_add 1 hf, Nat.testBit_two_pow]
 by_cases c : j < 63
 ·rw [if_pos c]
  have : decide (63 = j) = false := by simp; omega
  rw [this]; simp
 ·rw [if_neg c]
  have : f.testBit j = false := Nat.testBit_lt_two_pow (Nat.lt_of_lt_of_le hf (Nat.pow_le_pow_right (by omega) (by omega)))
  rw [this]
  by_cases d : 63 = j
  ·subst d; rfl
  ·have h1 : decide (63 = j) = false := by simpa using d
   rw [h1]
   have h2 : Nat.testBit 1 (j - 63) = false := Nat.testBit_lt_two_pow (Nat.one_lt_two_pow (by omega))
   rw [h2]; rfl
theorem read_minus {f : Nat} (h1 : 9223372036854775808 ≤ f) (h2 : f < 18446744073709551616) : (∃ m i, Ieee.double.read f = .number true m i) ∨ Ieee.double.read f = .infinity true ∨ ∃ t, Ieee.double.read f = .nan true t := by
 by_cases c : f = 9223372036854775808
 ·subst c
  exact .inl ⟨_, _, rfl⟩
 ·rcases read_neg (show 9223372036854775808 < f by omega) h2 with ⟨m, i, _, e⟩ | h
  ·exact .inl ⟨m, i, e⟩
  ·exact .inr h
theorem max_minus {f : Nat} (h1 : 9223372036854775808 ≤ f) (h2 : f < 18446744073709551616) : fcmp .gtr f 9218868437227405311 = false := by
 unfold fcmp
 rw [f64]
 simp only [Ieee.Format.order, read_max]
 rcases read_minus h1 h2 with ⟨m, i, e⟩ | e | ⟨t, e⟩
 ·rw [e]
  simp only [Ieee.Datum.order]
  have hs : Ieee.signed true m (i - min i 971).toNat ≤ 0 := by
   unfold Ieee.signed
   rw [if_pos rfl]
   have := Int.natCast_nonneg (m <<< (i - min i 971).toNat)
   omega
  rw [cmp_lt (Int.lt_of_le_of_lt hs (sg_pos1 (by omega)))]
  rfl
 ·rw [e]; rfl
 ·rw [e]; rfl
section
variable {W w : World} {l l' : List Assn}
theorem class_spec {f : Nat} (hf : f < 18446744073709551616) (H : St W l w) : cl Tryz.prog 64 [.float .f64 f] (tInt .i64) w fun r w' => (rateOk f → 3 ≤ r ∧ r ≤ 5) ∧ (9223372036854775808 < f → r < 3) ∧ (3 ≤ r → fcmp .neq f f = false) ∧ St W l w' := by
 refine F64_ok ?_
 unfold F64
 by_cases hn : fcmp .neq f f = true
 ·rw [if_pos hn]
  refine ⟨fun h => ?_, fun _ => by omega, fun h => by omega, H⟩
  exfalso
  rcases h with rfl | h
  ·exact absurd hn (by decide)
  ·rw [neq_fin (by omega)] at hn
   cases hn
 ·rw [if_neg hn]
  have hn : fcmp .neq f f = false := by simpa using hn
  by_cases c0 : f = 0
  ·rw [if_pos (by simp [c0])]
   exact ⟨fun _ => by omega, fun h => by omega, fun _ => hn, H⟩
  ·rw [if_neg (by simpa using c0)]
   by_cases c1 : f = 9223372036854775808
   ·rw [if_pos (by simp [c1])]
    exact ⟨fun _ => by omega, fun h => by omega, fun _ => hn, H⟩
   ·rw [if_neg (by simp; omega)]
    refine cl_mono (inf_spec (s := -1) hf H) ?_
    rintro r w ⟨hr, H⟩
    rw [if_neg (by omega), if_pos (by omega)] at hr
    subst hr
    by_cases hp : f < 9223372036854775808
    ·rw [negf hp, max_minus (by omega) (by omega), if_neg (by simp)]
     refine cl_mono (inf_spec (s := 1) hf H) ?_
     rintro r w ⟨hr, H⟩
     rw [if_neg (by omega), if_neg (by omega)] at hr
     subst hr
     by_cases hm : fcmp .gtr f 9218868437227405311 = true
     ·rw [if_pos hm]
      refine ⟨fun h => ?_, fun h => by omega, fun _ => hn, H⟩
      exfalso
      rcases h with rfl | h
      ·omega
      ·rw [max_fin (by omega)] at hm
       cases hm
     ·rw [if_neg hm, if_neg (by rw [lss0_pos hp]; simp)]
      exact ⟨fun _ => by omega, fun h => by omega, fun _ => hn, H⟩
    ·split
     ·exact ⟨fun h => by rcases h with h | h <;> omega, fun _ => by omega, fun h => by omega, H⟩
     ·refine cl_mono (inf_spec (s := 1) hf H) ?_
      rintro r w ⟨hr, H⟩
      rw [if_neg (by omega), if_neg (by omega)] at hr
      subst hr
      rw [max_minus (by omega) hf, if_neg (by simp), if_pos (lss0_neg (by omega) hf hn)]
      exact ⟨fun h => by rcases h with h | h <;> omega, fun _ => by omega, fun h => by omega, H⟩
def keyF (f : Nat) : Int := if f < 9223372036854775808 then (f : Int) + 9223372036854775808 else 18446744073709551615 - f
theorem key_spec {f : Nat} (hf : f < 18446744073709551616) (hn : fcmp .neq f f = false) (H : St W l w) : cl Tryz.prog 106 [.float .f64 f] (tInt .u64) w fun r w' => r = keyF f ∧ St W l w' := by
 have e63 : (2 : Int) ^ (min ((63 : Int)).toNat IntKind.u64.bits) = 9223372036854775808 := by decide
 refine F106_ok ?_
 unfold F106 keyF
 rw [if_neg (by rw [hn]; simp), e63, Int.fdiv_eq_ediv_of_nonneg _ (by omega)]
 refine ex_i _ ⟨by omega, rfl⟩ ?_
 by_cases c : f < 9223372036854775808
 ·rw [if_neg (by simp; omega), if_pos c]
  have := bits_join .u64 64 (by decide) wid_u64 63 9223372036854775808 (f : Int) (by omega) (by omega) (by omega) (by omega) (by omega) (by omega)
  have h2 := (bits_nat .u64 64 (by decide) wid_u64 f 9223372036854775808 (by omega) (by omega)).2
  have h3 := (bits_nat .u64 64 (by decide) wid_u64 9223372036854775808 f (by omega) (by omega)).2
  have e1 : ((9223372036854775808 : Nat) : Int) = 9223372036854775808 := rfl
  rw [e1] at h2 h3
  rw [h2, Nat.or_comm, ← h3, this]
  exact ⟨by omega, H⟩
 ·rw [if_pos (by simp; omega), if_neg c]
  have hx : bits .xor .u64 IntKind.u64.max (f : Int) = bits .xor .u64 (f : Int) IntKind.u64.max := by
   simp only [bits, BitVec.xor_comm]
  have h1 : bits .xor .u64 (f : Int) 18446744073709551615 = 18446744073709551615 - (f : Int) := xorm_u64 (by omega) (by omega)
  have h2 : IntKind.u64.max = 18446744073709551615 := rfl
  rw [hx, h2, h1]
  exact ⟨rfl, H⟩
theorem cmp_spec {f g : Nat} (hf : f < 18446744073709551616) (hg : g < 18446744073709551616) (hn : fcmp .neq f f = false) (hm : fcmp .neq g g = false) (H : St W l w) : cl Tryz.prog 65 [.float .f64 f, .float .f64 g] (tInt .i64) w fun r w' => (0 < r ↔ keyF g < keyF f) ∧ St W l w' := by
 refine F65_ok ?_
 unfold F65
 refine cl_mono (key_spec hf hn H) ?_
 rintro r w ⟨rfl, H⟩
 refine cl_mono (key_spec hg hm H) ?_
 rintro r w ⟨rfl, H⟩
 by_cases c : keyF f < keyF g
 ·rw [if_pos (by simpa using c)]
  exact ⟨by omega, H⟩
 ·rw [if_neg (by simpa using c)]
  by_cases d : keyF g < keyF f
  ·rw [if_pos (by simpa using d)]
   exact ⟨by omega, H⟩
  ·rw [if_neg (by simpa using d)]
   exact ⟨by omega, H⟩
theorem rate_spec {f : Nat} (hf : f < 18446744073709551616) (H : St W l w) : cl Tryz.prog 32 [.float .f64 f] (tInt .i64) w fun r w' => (r = 0 ↔ rateOk f) ∧ (r ≠ 0 → r = 43) ∧ St W l w' := by
 refine F32_ok ?_
 unfold F32 F32_j1
 refine cl_mono (class_spec hf H) ?_
 rintro r w ⟨h1, h2, h3, H⟩
 by_cases c : r < 3
 ·rw [if_pos (by simpa using c), if_pos rfl]
  exact ⟨⟨fun h => by omega, fun h => by have := h1 h; omega⟩, fun _ => rfl, H⟩
 ·rw [if_neg (by simpa using c)]
  have hle : f ≤ 9223372036854775808 := by
   apply Classical.byContradiction
   intro hc
   have := h2 (by omega)
   omega
  refine cl_mono (cmp_spec hf (by omega) (h3 (by omega)) (by decide) H) ?_
  rintro q w ⟨hq, H⟩
  have e1 : keyF 4607182418800017408 = 4607182418800017408 + 9223372036854775808 := rfl
  rw [e1] at hq
  by_cases d : 0 < q
  ·rw [if_pos (by simpa using d)]
   have := hq.1 d
   refine ⟨⟨fun h => by omega, fun h => ?_⟩, fun _ => rfl, H⟩
   exfalso
   unfold keyF at this
   rcases h with rfl | h
   ·rw [if_neg (by omega)] at this
    omega
   ·rw [if_pos (by omega)] at this
    omega
  ·rw [if_neg (by simpa using d)]
   refine ⟨⟨fun _ => ?_, fun _ => rfl⟩, fun h => absurd rfl h, H⟩
   by_cases c0 : f = 9223372036854775808
   ·exact .inl c0
   ·right
    have : ¬ (4607182418800017408 + 9223372036854775808 : Int) < keyF f := fun h => d (hq.2 h)
    unfold keyF at this
    rw [if_pos (by omega)] at this
    omega
theorem check_spec {n : Int} (H : St W l w) : cl Tryz.prog 54 [.int .i64 n] (tInt .i64) w fun r w' => r = (if 0 ≤ n ∧ n ≤ 1000000000000000 then 0 else 40) ∧ St W l w' := by
 refine F54_ok ?_
 unfold F54
 by_cases c : 0 ≤ n ∧ n ≤ 1000000000000000
 ·rw [if_neg (by simp; omega), if_pos c]
  exact ⟨rfl, H⟩
 ·rw [if_pos (by simp; omega), if_neg c]
  exact ⟨rfl, H⟩
end
end Go.Proofs.YtehclfjjjiiieaaGreat.Num
