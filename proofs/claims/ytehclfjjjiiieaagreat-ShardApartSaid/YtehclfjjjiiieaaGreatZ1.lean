/- Own texts of this claim, part 1: short, merged. -/
import Derived.Test.YtehclfjjjiiieaaGreatZ0
namespace Go.Proofs.YtehclfjjjiiieaaGreat.Cf
open Go
set_option maxRecDepth 100000
set_option maxHeartbeats 1000000
set_option linter.unusedVariables false
set_option linter.unusedSimpArgs false
def F9_l1 (a2 : Addr) (r5 : (Slc × Int × Int)) (s16 : Slc) (t_17 : Int) (w18 : World) (K19 : Int → World → Prop) (R : (S22 × Bool) → World → Prop) : Prop :=
 if (decide (t_17 < (s16.len : Int))) = true then (
  ex (IxA s16 5 t_17) fun a20 =>
  ex (RdAt T63 a20 w18) fun x21 =>
  nw 64 T63 Z63 w18 fun a22 w23 =>
  st T63 a22 x21 w23 fun w24 =>
  ex (RdAt (tInt .i64) (a22.add 0) w24) fun x25 =>
  if (x25 != (2 : Int)) = true then (
   st T22 a2 (⟨(0 : Int), (0 : Int), (0 : Int), (0 : Int), (0 : Int), false⟩ : S22) w24 fun w26 =>
   ex (RdAt T22 a2 w26) fun x27 =>
   R (x27, false) w26
  ) else (
   K19 ((IntKind.i64.wrap (t_17 + (1 : Int)))) w24
  )
 ) else (
  ex (IxA r5.1 5 (0 : Int)) fun a29 =>
  ex (RdAt (tInt .u64) (a29.add 1) w18) fun x30 =>
  cl Tryz.prog 29 [.int .i64 ((IntKind.i64.wrap x30))] tBool w18 fun r32 w31 =>
  if (!r32) = true then (
   st T22 a2 (⟨(0 : Int), (0 : Int), (0 : Int), (0 : Int), (0 : Int), false⟩ : S22) w31 fun w33 =>
   ex (RdAt T22 a2 w33) fun x34 =>
   R (x34, false) w33
  ) else (
   dr w31 fun w35 =>
   ex (IxA r5.1 5 (0 : Int)) fun a36 =>
   ex (IxA r5.1 5 (1 : Int)) fun a37 =>
   ex (IxA r5.1 5 (2 : Int)) fun a38 =>
   ex (IxA r5.1 5 (3 : Int)) fun a39 =>
   ex (IxA r5.1 5 (4 : Int)) fun a40 =>
   ex (IxA r5.1 5 (5 : Int)) fun a41 =>
   ex (RdAt (tInt .u64) (a36.add 1) w35) fun x42 =>
   ex (RdAt (tInt .i64) (a37.add 2) w35) fun x43 =>
   ex (RdAt (tInt .i64) (a38.add 2) w35) fun x44 =>
   ex (RdAt (tInt .i64) (a39.add 2) w35) fun x45 =>
   ex (RdAt (tInt .i64) (a40.add 2) w35) fun x46 =>
   ex (RdAt (tInt .u64) (a41.add 1) w35) fun x47 =>
   st T22 a2 (⟨(IntKind.i64.wrap x42), x43, x44, x45, x46, (x47 == (1 : Int))⟩ : S22) w35 fun w48 =>
   ex (RdAt T22 a2 w48) fun x49 =>
   R (x49, true) w48
  )
 )
def F9 (b_1 : Slc) (w : World) (R : (S22 × Bool) → World → Prop) : Prop :=
 nw 23 T22 Z22 w fun a2 w3 =>
 cl Tryz.prog 28 [tSlc.enc (b_1)] (tTup3 tSlc (tInt .i64) (tInt .i64)) w3 fun r5 w4 =>
 ex (fun x => (!((r5.2.2 != (0 : Int)) || ((r5.1.len : Int) != (6 : Int)))) = true → (IxA r5.1 5 (0 : Int)) x) fun a6 =>
 ex (fun x => (!((r5.2.2 != (0 : Int)) || ((r5.1.len : Int) != (6 : Int)))) = true → (RdAt (tInt .i64) (a6.add 0) w4) x) fun x7 =>
 ex (fun x => (!(((r5.2.2 != (0 : Int)) || ((r5.1.len : Int) != (6 : Int))) || (x7 != (1 : Int)))) = true → (IxA r5.1 5 (5 : Int)) x) fun a8 =>
 ex (fun x => (!(((r5.2.2 != (0 : Int)) || ((r5.1.len : Int) != (6 : Int))) || (x7 != (1 : Int)))) = true → (RdAt (tInt .i64) (a8.add 0) w4) x) fun x9 =>
 ex (fun x => (!((((r5.2.2 != (0 : Int)) || ((r5.1.len : Int) != (6 : Int))) || (x7 != (1 : Int))) || (x9 != (1 : Int)))) = true → (IxA r5.1 5 (0 : Int)) x) fun a10 =>
 ex (fun x => (!((((r5.2.2 != (0 : Int)) || ((r5.1.len : Int) != (6 : Int))) || (x7 != (1 : Int))) || (x9 != (1 : Int)))) = true → (RdAt (tInt .u64) (a10.add 1) w4) x) fun x11 =>
 ex (fun x => (!(((((r5.2.2 != (0 : Int)) || ((r5.1.len : Int) != (6 : Int))) || (x7 != (1 : Int))) || (x9 != (1 : Int))) || (decide (x11 > (6 : Int))))) = true → (IxA r5.1 5 (5 : Int)) x) fun a12 =>
 ex (fun x => (!(((((r5.2.2 != (0 : Int)) || ((r5.1.len : Int) != (6 : Int))) || (x7 != (1 : Int))) || (x9 != (1 : Int))) || (decide (x11 > (6 : Int))))) = true → (RdAt (tInt .u64) (a12.add 1) w4) x) fun x13 =>
 if ((((((r5.2.2 != (0 : Int)) || ((r5.1.len : Int) != (6 : Int))) || (x7 != (1 : Int))) || (x9 != (1 : Int))) || (decide (x11 > (6 : Int)))) || (decide (x13 > (1 : Int)))) = true then (
  st T22 a2 (⟨(0 : Int), (0 : Int), (0 : Int), (0 : Int), (0 : Int), false⟩ : S22) w4 fun w14 =>
  ex (RdAt T22 a2 w14) fun x15 =>
  R (x15, false) w14
 ) else (
  ex (Sub r5.1 5 (1 : Int) (5 : Int) ((r5.1).cap : Int)) fun s16 =>
  lp (fun (s : Int) w K => F9_l1 a2 r5 s16 s w K R) ((0 : Int)) w4
 )
theorem F9_ok {b_1 : Slc} {w : World} {R : (S22 × Bool) → World → Prop} (h : F9 b_1 w R) : cl Tryz.prog 9 [tSlc.enc (b_1)] (tTup2 T22 tBool) w R := by
 unfold F9 at h
 refine calls_start 98 Tryz.func9 rfl rfl (Nat.le_of_ble_eq_true rfl) <| wp_seq <| wp_text [0, 1] rfl ?_
 obtain ⟨a2, w3, ha2, hw3, h⟩ := nw_open h
 refine rv 2 rfl rfl rfl (q_alloc (u := Z22) rfl ok23 inf23 ha2 hw3) <| za 3 (.bool (false)) rfl rfl <| ro_nil <| wp_seq <| wp_text [0, 1, 2, 3, 4, 5, 6, 7, 8] rfl <| zm 10 (tSlc.enc (b_1)) rfl rfl <| zc ent28 rfl rfl h fun r5 w4 h => zm 9 ((tTup3 tSlc (tInt .i64) (tInt .i64)).enc (r5)) rfl rfl <| ze 12 (tSlc.enc (r5.1)) rfl rfl rfl <| ze 13 (.int .i64 (r5.2.1)) rfl rfl rfl <| ze 14 (.int .i64 (r5.2.2)) rfl rfl rfl <| za 4 (tSlc.enc (r5.1)) rfl rfl ?_
 refine za 5 (.int .i64 (r5.2.1)) rfl rfl <| za 6 (.int .i64 (r5.2.2)) rfl rfl <| ro_nil <| wp_seq <| wp_seq <| wp_text [0, 1, 2, 3, 4, 5, 6, 7, 8, 9, 10, 11, 12, 13, 14, 15, 16, 17, 18, 19, 20, 21, 22, 23, 24, 25, 26, 27, 28, 29, 30, 31, 32, 33, 34] rfl <| zm 15 (.int .i64 (r5.2.2)) rfl rfl <| rv 16 rfl rfl rfl (q_neq (a := r5.2.2) (b := (0 : Int)) rfl rfl rfl) <| zm 17 (.bool ((r5.2.2 != (0 : Int)))) rfl rfl <| ro_gval (g := (!(r5.2.2 != (0 : Int)))) (d := (some 18)) rfl (.no 2 17 true (r5.2.2 != (0 : Int)) rfl rfl rfl rfl) rfl (fun hg => q_move (v := tSlc.enc (r5.1)) rfl rfl) <| ro_gval (g := (!(r5.2.2 != (0 : Int)))) (d := (some 19)) rfl (.no 2 17 true (r5.2.2 != (0 : Int)) rfl rfl rfl rfl) rfl (fun hg => q_len (s := r5.1) rfl Tryz.underlying65 (gvb_yes hg)) <| ro_gval (g := (!(r5.2.2 != (0 : Int)))) (d := (some 20)) rfl (.no 2 17 true (r5.2.2 != (0 : Int)) rfl rfl rfl rfl) rfl (fun hg => q_neq (k := .i64) (a := (r5.1.len : Int)) (b := (6 : Int)) rfl (gvb_yes hg) rfl) ?_
 refine rv 21 rfl rfl rfl (q_pickGF (a := (r5.2.2 != (0 : Int))) (c := ((r5.1.len : Int) != (6 : Int))) rfl rfl rfl rfl) <| zm 22 (.bool (((r5.2.2 != (0 : Int)) || ((r5.1.len : Int) != (6 : Int))))) rfl rfl <| ro_gval (g := (!((r5.2.2 != (0 : Int)) || ((r5.1.len : Int) != (6 : Int))))) (d := (some 23)) rfl (.no 7 22 true ((r5.2.2 != (0 : Int)) || ((r5.1.len : Int) != (6 : Int))) rfl rfl rfl rfl) rfl (fun hg => q_move (v := tSlc.enc (r5.1)) rfl rfl) ?_
 obtain ⟨a6, ha6, h⟩ := h
 refine ro_gval (g := (!((r5.2.2 != (0 : Int)) || ((r5.1.len : Int) != (6 : Int))))) (d := (some 24)) rfl (.no 7 22 true ((r5.2.2 != (0 : Int)) || ((r5.1.len : Int) != (6 : Int))) rfl rfl rfl rfl) rfl (fun hg => q_indexAddr (s := r5.1) (k := .i64) (i := (0 : Int)) rfl Tryz.underlying65 ok64 (gvb_yes hg) rfl (ha6 hg)) <| ro_gval (g := (!((r5.2.2 != (0 : Int)) || ((r5.1.len : Int) != (6 : Int))))) (d := (some 25)) rfl (.no 7 22 true ((r5.2.2 != (0 : Int)) || ((r5.1.len : Int) != (6 : Int))) rfl rfl rfl rfl) rfl (fun hg => q_fieldAddr (a := a6) (off := 0) rfl Tryz.underlying64 rfl rfl ok62 (by decide) (gvb_yes hg)) ?_
 obtain ⟨x7, hx7, h⟩ := h
 refine ro_gval (g := (!((r5.2.2 != (0 : Int)) || ((r5.1.len : Int) != (6 : Int))))) (d := (some 26)) rfl (.no 7 22 true ((r5.2.2 != (0 : Int)) || ((r5.1.len : Int) != (6 : Int))) rfl rfl rfl rfl) rfl (fun hg => q_load (T := (tInt .i64)) (u := x7) (a := (a6.add 0)) rfl ok62 (gvb_yes hg) (hx7 hg)) <| ro_gval (g := (!((r5.2.2 != (0 : Int)) || ((r5.1.len : Int) != (6 : Int))))) (d := (some 27)) rfl (.no 7 22 true ((r5.2.2 != (0 : Int)) || ((r5.1.len : Int) != (6 : Int))) rfl rfl rfl rfl) rfl (fun hg => q_neq (k := .i64) (a := x7) (b := (1 : Int)) rfl (gvb_yes hg) rfl) <| rv 28 rfl rfl rfl (q_pickGF (a := ((r5.2.2 != (0 : Int)) || ((r5.1.len : Int) != (6 : Int)))) (c := (x7 != (1 : Int))) rfl rfl rfl rfl) <| zm 29 (.bool ((((r5.2.2 != (0 : Int)) || ((r5.1.len : Int) != (6 : Int))) || (x7 != (1 : Int))))) rfl rfl <| ro_gval (g := (!(((r5.2.2 != (0 : Int)) || ((r5.1.len : Int) != (6 : Int))) || (x7 != (1 : Int))))) (d := (some 30)) rfl (.no 14 29 true (((r5.2.2 != (0 : Int)) || ((r5.1.len : Int) != (6 : Int))) || (x7 != (1 : Int))) rfl rfl rfl rfl) rfl (fun hg => q_move (v := tSlc.enc (r5.1)) rfl rfl) ?_
 obtain ⟨a8, ha8, h⟩ := h
 refine ro_gval (g := (!(((r5.2.2 != (0 : Int)) || ((r5.1.len : Int) != (6 : Int))) || (x7 != (1 : Int))))) (d := (some 31)) rfl (.no 14 29 true (((r5.2.2 != (0 : Int)) || ((r5.1.len : Int) != (6 : Int))) || (x7 != (1 : Int))) rfl rfl rfl rfl) rfl (fun hg => q_indexAddr (s := r5.1) (k := .i64) (i := (5 : Int)) rfl Tryz.underlying65 ok64 (gvb_yes hg) rfl (ha8 hg)) <| ro_gval (g := (!(((r5.2.2 != (0 : Int)) || ((r5.1.len : Int) != (6 : Int))) || (x7 != (1 : Int))))) (d := (some 32)) rfl (.no 14 29 true (((r5.2.2 != (0 : Int)) || ((r5.1.len : Int) != (6 : Int))) || (x7 != (1 : Int))) rfl rfl rfl rfl) rfl (fun hg => q_fieldAddr (a := a8) (off := 0) rfl Tryz.underlying64 rfl rfl ok62 (by decide) (gvb_yes hg)) ?_
 obtain ⟨x9, hx9, h⟩ := h
 refine ro_gval (g := (!(((r5.2.2 != (0 : Int)) || ((r5.1.len : Int) != (6 : Int))) || (x7 != (1 : Int))))) (d := (some 33)) rfl (.no 14 29 true (((r5.2.2 != (0 : Int)) || ((r5.1.len : Int) != (6 : Int))) || (x7 != (1 : Int))) rfl rfl rfl rfl) rfl (fun hg => q_load (T := (tInt .i64)) (u := x9) (a := (a8.add 0)) rfl ok62 (gvb_yes hg) (hx9 hg)) <| ro_gval (g := (!(((r5.2.2 != (0 : Int)) || ((r5.1.len : Int) != (6 : Int))) || (x7 != (1 : Int))))) (d := (some 34)) rfl (.no 14 29 true (((r5.2.2 != (0 : Int)) || ((r5.1.len : Int) != (6 : Int))) || (x7 != (1 : Int))) rfl rfl rfl rfl) rfl (fun hg => q_neq (k := .i64) (a := x9) (b := (1 : Int)) rfl (gvb_yes hg) rfl) <| rv 35 rfl rfl rfl (q_pickGF (a := (((r5.2.2 != (0 : Int)) || ((r5.1.len : Int) != (6 : Int))) || (x7 != (1 : Int)))) (c := (x9 != (1 : Int))) rfl rfl rfl rfl) <| zm 36 (.bool (((((r5.2.2 != (0 : Int)) || ((r5.1.len : Int) != (6 : Int))) || (x7 != (1 : Int))) || (x9 != (1 : Int))))) rfl rfl <| ro_gval (g := (!((((r5.2.2 != (0 : Int)) || ((r5.1.len : Int) != (6 : Int))) || (x7 != (1 : Int))) || (x9 != (1 : Int))))) (d := (some 37)) rfl (.no 21 36 true ((((r5.2.2 != (0 : Int)) || ((r5.1.len : Int) != (6 : Int))) || (x7 != (1 : Int))) || (x9 != (1 : Int))) rfl rfl rfl rfl) rfl (fun hg => q_move (v := tSlc.enc (r5.1)) rfl rfl) ?_
 obtain ⟨a10, ha10, h⟩ := h
 refine ro_gval (g := (!((((r5.2.2 != (0 : Int)) || ((r5.1.len : Int) != (6 : Int))) || (x7 != (1 : Int))) || (x9 != (1 : Int))))) (d := (some 38)) rfl (.no 21 36 true ((((r5.2.2 != (0 : Int)) || ((r5.1.len : Int) != (6 : Int))) || (x7 != (1 : Int))) || (x9 != (1 : Int))) rfl rfl rfl rfl) rfl (fun hg => q_indexAddr (s := r5.1) (k := .i64) (i := (0 : Int)) rfl Tryz.underlying65 ok64 (gvb_yes hg) rfl (ha10 hg)) <| ro_gval (g := (!((((r5.2.2 != (0 : Int)) || ((r5.1.len : Int) != (6 : Int))) || (x7 != (1 : Int))) || (x9 != (1 : Int))))) (d := (some 39)) rfl (.no 21 36 true ((((r5.2.2 != (0 : Int)) || ((r5.1.len : Int) != (6 : Int))) || (x7 != (1 : Int))) || (x9 != (1 : Int))) rfl rfl rfl rfl) rfl (fun hg => q_fieldAddr (a := a10) (off := 1) rfl Tryz.underlying64 rfl rfl ok61 (by decide) (gvb_yes hg)) ?_
 obtain ⟨x11, hx11, h⟩ := h
 refine ro_gval (g := (!((((r5.2.2 != (0 : Int)) || ((r5.1.len : Int) != (6 : Int))) || (x7 != (1 : Int))) || (x9 != (1 : Int))))) (d := (some 40)) rfl (.no 21 36 true ((((r5.2.2 != (0 : Int)) || ((r5.1.len : Int) != (6 : Int))) || (x7 != (1 : Int))) || (x9 != (1 : Int))) rfl rfl rfl rfl) rfl (fun hg => q_load (T := (tInt .u64)) (u := x11) (a := (a10.add 1)) rfl ok61 (gvb_yes hg) (hx11 hg)) <| ro_gval (g := (!((((r5.2.2 != (0 : Int)) || ((r5.1.len : Int) != (6 : Int))) || (x7 != (1 : Int))) || (x9 != (1 : Int))))) (d := (some 41)) rfl (.no 21 36 true ((((r5.2.2 != (0 : Int)) || ((r5.1.len : Int) != (6 : Int))) || (x7 != (1 : Int))) || (x9 != (1 : Int))) rfl rfl rfl rfl) rfl (fun hg => q_gtr (k := .u64) (a := x11) (b := (6 : Int)) rfl (gvb_yes hg) rfl) <| rv 42 rfl rfl rfl (q_pickGF (a := ((((r5.2.2 != (0 : Int)) || ((r5.1.len : Int) != (6 : Int))) || (x7 != (1 : Int))) || (x9 != (1 : Int)))) (c := (decide (x11 > (6 : Int)))) rfl rfl rfl rfl) <| zm 43 (.bool ((((((r5.2.2 != (0 : Int)) || ((r5.1.len : Int) != (6 : Int))) || (x7 != (1 : Int))) || (x9 != (1 : Int))) || (decide (x11 > (6 : Int)))))) rfl rfl <| ro_gval (g := (!(((((r5.2.2 != (0 : Int)) || ((r5.1.len : Int) != (6 : Int))) || (x7 != (1 : Int))) || (x9 != (1 : Int))) || (decide (x11 > (6 : Int)))))) (d := (some 44)) rfl (.no 28 43 true (((((r5.2.2 != (0 : Int)) || ((r5.1.len : Int) != (6 : Int))) || (x7 != (1 : Int))) || (x9 != (1 : Int))) || (decide (x11 > (6 : Int)))) rfl rfl rfl rfl) rfl (fun hg => q_move (v := tSlc.enc (r5.1)) rfl rfl) ?_
 obtain ⟨a12, ha12, h⟩ := h
 refine ro_gval (g := (!(((((r5.2.2 != (0 : Int)) || ((r5.1.len : Int) != (6 : Int))) || (x7 != (1 : Int))) || (x9 != (1 : Int))) || (decide (x11 > (6 : Int)))))) (d := (some 45)) rfl (.no 28 43 true (((((r5.2.2 != (0 : Int)) || ((r5.1.len : Int) != (6 : Int))) || (x7 != (1 : Int))) || (x9 != (1 : Int))) || (decide (x11 > (6 : Int)))) rfl rfl rfl rfl) rfl (fun hg => q_indexAddr (s := r5.1) (k := .i64) (i := (5 : Int)) rfl Tryz.underlying65 ok64 (gvb_yes hg) rfl (ha12 hg)) <| ro_gval (g := (!(((((r5.2.2 != (0 : Int)) || ((r5.1.len : Int) != (6 : Int))) || (x7 != (1 : Int))) || (x9 != (1 : Int))) || (decide (x11 > (6 : Int)))))) (d := (some 46)) rfl (.no 28 43 true (((((r5.2.2 != (0 : Int)) || ((r5.1.len : Int) != (6 : Int))) || (x7 != (1 : Int))) || (x9 != (1 : Int))) || (decide (x11 > (6 : Int)))) rfl rfl rfl rfl) rfl (fun hg => q_fieldAddr (a := a12) (off := 1) rfl Tryz.underlying64 rfl rfl ok61 (by decide) (gvb_yes hg)) ?_
 obtain ⟨x13, hx13, h⟩ := h
 refine ro_gval (g := (!(((((r5.2.2 != (0 : Int)) || ((r5.1.len : Int) != (6 : Int))) || (x7 != (1 : Int))) || (x9 != (1 : Int))) || (decide (x11 > (6 : Int)))))) (d := (some 47)) rfl (.no 28 43 true (((((r5.2.2 != (0 : Int)) || ((r5.1.len : Int) != (6 : Int))) || (x7 != (1 : Int))) || (x9 != (1 : Int))) || (decide (x11 > (6 : Int)))) rfl rfl rfl rfl) rfl (fun hg => q_load (T := (tInt .u64)) (u := x13) (a := (a12.add 1)) rfl ok61 (gvb_yes hg) (hx13 hg)) <| ro_gval (g := (!(((((r5.2.2 != (0 : Int)) || ((r5.1.len : Int) != (6 : Int))) || (x7 != (1 : Int))) || (x9 != (1 : Int))) || (decide (x11 > (6 : Int)))))) (d := (some 48)) rfl (.no 28 43 true (((((r5.2.2 != (0 : Int)) || ((r5.1.len : Int) != (6 : Int))) || (x7 != (1 : Int))) || (x9 != (1 : Int))) || (decide (x11 > (6 : Int)))) rfl rfl rfl rfl) rfl (fun hg => q_gtr (k := .u64) (a := x13) (b := (1 : Int)) rfl (gvb_yes hg) rfl) <| rv 49 rfl rfl rfl (q_pickGF (a := (((((r5.2.2 != (0 : Int)) || ((r5.1.len : Int) != (6 : Int))) || (x7 != (1 : Int))) || (x9 != (1 : Int))) || (decide (x11 > (6 : Int))))) (c := (decide (x13 > (1 : Int)))) rfl rfl rfl rfl) <| ro_nil <| zi h rfl (fun _ h => ?_) fun _ h => ?_
 ·refine wp_seq <| wp_text [0, 1, 2] rfl <| rv 50 rfl rfl rfl (q_build23_  rfl ) ?_
  obtain ⟨w14, hw14, hrw14, h⟩ := st_open h
  refine ro_skip (d := none) rfl (.free rfl) rfl (q_store (T := T22) (u := (⟨(0 : Int), (0 : Int), (0 : Int), (0 : Int), (0 : Int), false⟩ : S22)) (a := a2) rfl ok23 rfl rfl hrw14 hw14) <| za 3 (.bool (false)) rfl rfl <| ro_nil <| wp_ret ?_
  obtain ⟨x15, hx15, h⟩ := h
  exact ret_ok rfl (.cons (.cell (T := T22) (u := x15) (a := a2) ok23 rfl hx15) (.cons (.tmp (v := .bool (false)) rfl) .nil)) ⟨(x15, false), rfl, h⟩
 ·refine wp_skip <| wp_seq <| wp_seq <| wp_text [0, 1, 2, 3] rfl <| zm 51 (tSlc.enc (r5.1)) rfl rfl ?_
  obtain ⟨s16, hs16, h⟩ := h
  refine rv 52 rfl rfl rfl (q_sliceLH (s := r5.1) (l := (1 : Int)) (h := (5 : Int)) rfl Tryz.underlying65 ok64 rfl rfl rfl hs16) <| rv 53 rfl rfl rfl (q_len (s := s16) rfl Tryz.underlying65 rfl) <| zm 54 (.int .i64 ((0 : Int))) rfl rfl <| ro_nil <| wp_block <| loop_at (σ := Int) (fr := fun g (s : Int) => upd (upd (upd (upd (upd (g) 2 (.pointer (some a2))) 4 (tSlc.enc (r5.1))) 52 (tSlc.enc (s16))) 53 (.int .i64 ((s16.len : Int)))) 54 (.int .i64 (s))) (s0 := ((0 : Int))) (upd_step (upd_step (upd_step (upd_step (upd_step rfl rfl) rfl) rfl) rfl) rfl) h ?_
  rintro t_17 g w18 K19 h
  unfold F9_l1 at h
  refine wp_seq <| wp_text [0] rfl <| rv 55 rfl rfl rfl (q_lss (a := t_17) (b := (s16.len : Int)) rfl rfl rfl) <| ro_nil <| wp_seq <| zi h rfl (fun _ h => ?_) fun _ h => ?_
  ·refine wp_skip <| wp_seq <| wp_block <| wp_seq <| wp_text [0, 1, 2, 3] rfl ?_
   obtain ⟨a20, ha20, h⟩ := h
   refine rv 56 rfl rfl rfl (q_indexAddr (s := s16) (k := .i64) (i := t_17) rfl Tryz.underlying65 ok64 rfl rfl ha20) ?_
   obtain ⟨x21, hx21, h⟩ := h
   refine zl 57 hx21 ok64 rfl rfl ?_
   obtain ⟨a22, w23, ha22, hw23, h⟩ := nw_open h
   refine rv 8 rfl rfl rfl (q_alloc (u := Z63) rfl ok64 inf64 ha22 hw23) ?_
   obtain ⟨w24, hw24, hrw24, h⟩ := st_open h
   refine ro_skip (d := none) rfl (.free rfl) rfl (q_store (T := T63) (u := x21) (a := a22) rfl ok64 rfl rfl hrw24 hw24) <| ro_nil <| wp_seq <| wp_text [0, 1, 2] rfl <| zf 58 a22 0 Tryz.underlying64 ok62 rfl rfl rfl ?_
   obtain ⟨x25, hx25, h⟩ := h
   refine zl 59 hx25 ok62 rfl rfl <| rv 60 rfl rfl rfl (q_neq (a := x25) (b := (2 : Int)) rfl rfl rfl) <| ro_nil <| zi h rfl (fun _ h => ?_) fun _ h => ?_
   ·refine wp_seq <| wp_text [0, 1, 2] rfl <| rv 61 rfl rfl rfl (q_build23_  rfl ) ?_
    obtain ⟨w26, hw26, hrw26, h⟩ := st_open h
    refine ro_skip (d := none) rfl (.free rfl) rfl (q_store (T := T22) (u := (⟨(0 : Int), (0 : Int), (0 : Int), (0 : Int), (0 : Int), false⟩ : S22)) (a := a2) rfl ok23 rfl rfl hrw26 hw26) <| za 3 (.bool (false)) rfl rfl <| ro_nil <| wp_ret ?_
    obtain ⟨x27, hx27, h⟩ := h
    exact ret_ok rfl (.cons (.cell (T := T22) (u := x27) (a := a2) ok23 rfl hx27) (.cons (.tmp (v := .bool (false)) rfl) .nil)) ⟨(x27, false), rfl, h⟩
   ·refine wp_skip <| wp_text [0, 1] rfl <| rv 62 rfl rfl rfl (q_add (a := t_17) (b := (1 : Int)) rfl rfl rfl) <| zm 54 (.int .i64 ((IntKind.i64.wrap (t_17 + (1 : Int))))) rfl rfl <| ro_nil ?_
    exact ⟨((IntKind.i64.wrap (t_17 + (1 : Int)))), _, arr (upd_step (upd_step (upd_step (upd_step (upd_step rfl rfl) rfl) rfl) rfl) rfl), h⟩
  ·refine wp_exit <| wp_seq <| wp_seq <| wp_text [0, 1, 2, 3, 4, 5, 6] rfl <| zm 63 (tSlc.enc (r5.1)) rfl rfl ?_
   obtain ⟨a29, ha29, h⟩ := h
   refine rv 64 rfl rfl rfl (q_indexAddr (s := r5.1) (k := .i64) (i := (0 : Int)) rfl Tryz.underlying65 ok64 rfl rfl ha29) <| zf 65 a29 1 Tryz.underlying64 ok61 rfl rfl rfl ?_
   obtain ⟨x30, hx30, h⟩ := h
   refine zl 66 hx30 ok61 rfl rfl <| rv 67 rfl rfl rfl (q_cvtI (a := x30) rfl Tryz.underlying61 Tryz.underlying3 rfl) <| zc ent29 rfl rfl h fun r32 w31 h => rv 69 rfl rfl rfl (q_not (b := r32) rfl rfl) <| ro_nil <| zi h rfl (fun _ h => ?_) fun _ h => ?_
   ·refine wp_seq <| wp_text [0, 1, 2] rfl <| rv 70 rfl rfl rfl (q_build23_  rfl ) ?_
    obtain ⟨w33, hw33, hrw33, h⟩ := st_open h
    refine ro_skip (d := none) rfl (.free rfl) rfl (q_store (T := T22) (u := (⟨(0 : Int), (0 : Int), (0 : Int), (0 : Int), (0 : Int), false⟩ : S22)) (a := a2) rfl ok23 rfl rfl hrw33 hw33) <| za 3 (.bool (false)) rfl rfl <| ro_nil <| wp_ret ?_
    obtain ⟨x34, hx34, h⟩ := h
    exact ret_ok rfl (.cons (.cell (T := T22) (u := x34) (a := a2) ok23 rfl hx34) (.cons (.tmp (v := .bool (false)) rfl) .nil)) ⟨(x34, false), rfl, h⟩
   ·refine wp_skip <| wp_seq ?_
    obtain ⟨w35, hw35, h⟩ := dr_open h
    refine wp_drawn 29 mixed rfl (by kernel_rfl) (by intro c a d v w h; cases d <;> exact h) hw35 (fun hD => ?_)
    refine ym 0 71 (tSlc.enc (r5.1)) hD rfl rfl ?_
    obtain ⟨a36, ha36, h⟩ := h
    refine rp 1 72 hD rfl rfl rfl (fun _ => q_indexAddr (s := r5.1) (k := .i64) (i := (0 : Int)) rfl Tryz.underlying65 ok64 rfl rfl ha36) <| yf 2 73 a36 1 Tryz.underlying64 ok61 hD rfl rfl rfl <| ym 5 76 (tSlc.enc (r5.1)) hD rfl rfl ?_
    obtain ⟨a37, ha37, h⟩ := h
    refine rp 6 77 hD rfl rfl rfl (fun _ => q_indexAddr (s := r5.1) (k := .i64) (i := (1 : Int)) rfl Tryz.underlying65 ok64 rfl rfl ha37) <| yf 7 78 a37 2 Tryz.underlying64 ok2 hD rfl rfl rfl <| ym 9 80 (tSlc.enc (r5.1)) hD rfl rfl ?_
    obtain ⟨a38, ha38, h⟩ := h
    refine rp 10 81 hD rfl rfl rfl (fun _ => q_indexAddr (s := r5.1) (k := .i64) (i := (2 : Int)) rfl Tryz.underlying65 ok64 rfl rfl ha38) <| yf 11 82 a38 2 Tryz.underlying64 ok2 hD rfl rfl rfl <| ym 13 84 (tSlc.enc (r5.1)) hD rfl rfl ?_
    obtain ⟨a39, ha39, h⟩ := h
    refine rp 14 85 hD rfl rfl rfl (fun _ => q_indexAddr (s := r5.1) (k := .i64) (i := (3 : Int)) rfl Tryz.underlying65 ok64 rfl rfl ha39) <| yf 15 86 a39 2 Tryz.underlying64 ok2 hD rfl rfl rfl <| ym 17 88 (tSlc.enc (r5.1)) hD rfl rfl ?_
    obtain ⟨a40, ha40, h⟩ := h
    refine rp 18 89 hD rfl rfl rfl (fun _ => q_indexAddr (s := r5.1) (k := .i64) (i := (4 : Int)) rfl Tryz.underlying65 ok64 rfl rfl ha40) <| yf 19 90 a40 2 Tryz.underlying64 ok2 hD rfl rfl rfl <| ym 21 92 (tSlc.enc (r5.1)) hD rfl rfl ?_
    obtain ⟨a41, ha41, h⟩ := h
    refine rp 22 93 hD rfl rfl rfl (fun _ => q_indexAddr (s := r5.1) (k := .i64) (i := (5 : Int)) rfl Tryz.underlying65 ok64 rfl rfl ha41) <| yf 23 94 a41 1 Tryz.underlying64 ok61 hD rfl rfl rfl ?_
    obtain ⟨x42, hx42, h⟩ := h
    refine yr 3 74 hx42 ok61 hD rfl rfl <| rp 4 75 hD rfl rfl rfl (fun _ => q_cvtI (a := x42) rfl Tryz.underlying61 Tryz.underlying3 rfl) ?_
    obtain ⟨x43, hx43, h⟩ := h
    refine yr 8 79 hx43 ok2 hD rfl rfl ?_
    obtain ⟨x44, hx44, h⟩ := h
    refine yr 12 83 hx44 ok2 hD rfl rfl ?_
    obtain ⟨x45, hx45, h⟩ := h
    refine yr 16 87 hx45 ok2 hD rfl rfl ?_
    obtain ⟨x46, hx46, h⟩ := h
    refine yr 20 91 hx46 ok2 hD rfl rfl ?_
    obtain ⟨x47, hx47, h⟩ := h
    refine yr 24 95 hx47 ok61 hD rfl rfl <| rp 25 96 hD rfl rfl rfl (fun _ => q_eql (a := x47) (b := (1 : Int)) rfl rfl rfl) <| rp 26 97 hD rfl rfl rfl (fun _ => q_build23_0_1_2_3_4_5 (v0 := (IntKind.i64.wrap x42)) (v1 := x43) (v2 := x44) (v3 := x45) (v4 := x46) (v5 := (x47 == (1 : Int))) rfl rfl rfl rfl rfl rfl rfl) <| rd_one (i := 27) (by kernel_rfl) ?_
    obtain ⟨w48, hw48, hrw48, h⟩ := st_open h
    refine po_skip (d := none) rfl (.free rfl) rfl (q_store (T := T22) (u := (⟨(IntKind.i64.wrap x42), x43, x44, x45, x46, (x47 == (1 : Int))⟩ : S22)) (a := a2) rfl ok23 rfl rfl hrw48 hw48) ⟨(hk_wait (by kernel_rfl) (hk_wait (by kernel_rfl) (hk_wait (by kernel_rfl) (hk_wait (by kernel_rfl) (hk_wait (by kernel_rfl) (hk_wait (by kernel_rfl) hk_nil)))))), ?_⟩
    refine ya 28 3 (.bool (true)) hD rfl rfl <| rd_nil (by kernel_rfl) <| wp_ret ?_
    obtain ⟨x49, hx49, h⟩ := h
    exact ret_ok rfl (.cons (.cell (T := T22) (u := x49) (a := a2) ok23 rfl hx49) (.cons (.tmp (v := .bool (true)) rfl) .nil)) ⟨(x49, true), rfl, h⟩
def F12 (n_1 : Int) (w : World) (R : ((Option Addr) × Int) → World → Prop) : Prop :=
 if ((decide (n_1 < (1 : Int))) || (decide (n_1 > (16 : Int)))) = true then (
  R ((none : Option Addr), (70 : Int)) w
 ) else (
  mkS 93 T92 32 Z92 n_1 n_1 w fun r3 w2 =>
  nw 77 T76 (⟨r3, (0 : Int), false, (0 : Int), (⟨none, 0, 0⟩ : Slc)⟩ : S76) w2 fun a4 w5 =>
  R ((some a4), (0 : Int)) w5
 )
theorem F12_ok {n_1 : Int} {w : World} {R : ((Option Addr) × Int) → World → Prop} (h : F12 n_1 w R) : cl Tryz.prog 12 [.int .i64 (n_1)] (tTup2 tPtr (tInt .i64)) w R := by
 unfold F12 at h
 refine calls_start 14 Tryz.func12 rfl rfl (Nat.le_of_ble_eq_true rfl) <| wp_seq <| wp_text [0, 1] rfl <| za 2 (.pointer ((none : Option Addr))) rfl rfl <| za 3 (.int .i64 ((0 : Int))) rfl rfl <| ro_nil <| wp_seq <| wp_seq <| wp_text [0, 1, 2, 3, 4, 5] rfl <| zm 4 (.int .i64 (n_1)) rfl rfl <| rv 5 rfl rfl rfl (q_lss (a := n_1) (b := (1 : Int)) rfl rfl rfl) <| zm 6 (.bool ((decide (n_1 < (1 : Int))))) rfl rfl ?_
 refine ro_gval (g := (!(decide (n_1 < (1 : Int))))) (d := (some 7)) rfl (.no 2 6 true (decide (n_1 < (1 : Int))) rfl rfl rfl rfl) rfl (fun hg => q_move (v := .int .i64 (n_1)) rfl rfl) <| ro_gval (g := (!(decide (n_1 < (1 : Int))))) (d := (some 8)) rfl (.no 2 6 true (decide (n_1 < (1 : Int))) rfl rfl rfl rfl) rfl (fun hg => q_gtr (k := .i64) (a := n_1) (b := (16 : Int)) rfl (gvb_yes hg) rfl) <| rv 9 rfl rfl rfl (q_pickGF (a := (decide (n_1 < (1 : Int)))) (c := (decide (n_1 > (16 : Int)))) rfl rfl rfl rfl) <| ro_nil <| zi h rfl (fun _ h => ?_) fun _ h => ?_
 ·refine wp_seq <| wp_text [0, 1] rfl <| za 2 (.pointer ((none : Option Addr))) rfl rfl <| za 3 (.int .i64 ((70 : Int))) rfl rfl <| ro_nil <| wp_ret ?_
  exact zr2 h rfl rfl
 ·refine wp_skip <| wp_seq <| wp_text [0, 1, 2, 3, 4, 5] rfl <| zm 10 (.int .i64 (n_1)) rfl rfl <| ro_wp rfl (.free rfl) (wp_mkS (T := T92) (z := Z92) (l := n_1) (c := n_1) (d := (some 11)) rfl rfl Tryz.underlying75 ok93 inf93 rfl rfl h ?_)
  intro r3 w2 h
  refine rv 12 rfl rfl rfl (q_build77_0 (v0 := r3) rfl rfl) ?_
  obtain ⟨a4, w5, ha4, hw5, h⟩ := nw_open h
  refine rv 13 rfl rfl rfl (q_box (u := (⟨r3, (0 : Int), false, (0 : Int), (⟨none, 0, 0⟩ : Slc)⟩ : S76)) rfl ok77 rfl ha4 hw5) <| za 2 (.pointer (some a4)) rfl rfl <| za 3 (.int .i64 ((0 : Int))) rfl rfl <| ro_nil <| wp_ret ?_
  exact zr2 h rfl rfl
end Go.Proofs.YtehclfjjjiiieaaGreat.Cf
namespace Go.Proofs.YtehclfjjjiiieaaGreat.Cf
open Go
set_option maxRecDepth 100000
set_option maxHeartbeats 1000000
set_option linter.unusedVariables false
set_option linter.unusedSimpArgs false
def F13_l1 (r7 : ((Option Addr) × Slc × Int)) (a10 : Addr) (t_12 : Int) (w13 : World) (K14 : Int → World → Prop) (R : ((Option Addr) × Int) → World → Prop) : Prop :=
 if (decide (t_12 < (r7.2.1.len : Int))) = true then (
  ex (IxA r7.2.1 1 t_12) fun a15 =>
  ex (RdAt tSlc a15 w13) fun x16 =>
  cl Tryz.prog 9 [tSlc.enc (x16)] (tTup2 T22 tBool) w13 fun r18 w17 =>
  nw 23 T22 Z22 w17 fun a19 w20 =>
  st T22 a19 r18.1 w20 fun w21 =>
  if (!r18.2) = true then (
   R ((none : Option Addr), (191 : Int)) w21
  ) else (
   ex (RdAt T22 a19 w21) fun x22 =>
   cl Tryz.prog 35 [.pointer ((some a10)), T22.enc (x22)] (tInt .i64) w21 fun r24 w23 =>
   K14 ((IntKind.i64.wrap (t_12 + (1 : Int)))) w23
  )
 ) else (
  R ((some a10), (0 : Int)) w13
 )
def F13 (d_1 : (Option Addr)) (log_2 : Int) (rate_3 : Nat) (w : World) (R : ((Option Addr) × Int) → World → Prop) : Prop :=
 cl Tryz.prog 32 [.float .f64 (rate_3)] (tInt .i64) w fun r5 w4 =>
 if (r5 != (0 : Int)) = true then (
  R ((none : Option Addr), (190 : Int)) w4
 ) else (
  cl Tryz.prog 33 [.pointer (d_1), .int .i64 (log_2)] (tTup3 tPtr tSlc (tInt .i64)) w4 fun r7 w6 =>
  if (r7.2.2 != (0 : Int)) = true then (
   R ((none : Option Addr), r7.2.2) w6
  ) else (
   cl Tryz.prog 34 [.float .f64 (rate_3)] (tTup2 tPtr (tInt .i64)) w6 fun r9 w8 =>
   nw 46 T45 (⟨r7.1, r9.1⟩ : S45) w8 fun a10 w11 =>
   lp (fun (s : Int) w K => F13_l1 r7 a10 s w K R) ((0 : Int)) w11
  )
 )
theorem F13_ok {d_1 : (Option Addr)} {log_2 : Int} {rate_3 : Nat} {w : World} {R : ((Option Addr) × Int) → World → Prop} (h : F13 d_1 log_2 rate_3 w R) : cl Tryz.prog 13 [.pointer (d_1), .int .i64 (log_2), .float .f64 (rate_3)] (tTup2 tPtr (tInt .i64)) w R := by
 unfold F13 at h
 refine calls_start 58 Tryz.func13 rfl rfl (Nat.le_of_ble_eq_true rfl) <| wp_seq <| wp_text [0, 1] rfl <| za 6 (.pointer ((none : Option Addr))) rfl rfl <| za 7 (.int .i64 ((0 : Int))) rfl rfl <| ro_nil <| wp_seq <| wp_seq <| wp_text [0, 1, 2] rfl <| zm 18 (.float .f64 (rate_3)) rfl rfl <| zc ent32 rfl rfl h fun r5 w4 h => rv 20 rfl rfl rfl (q_neq (a := r5) (b := (0 : Int)) rfl rfl rfl) ?_
 refine ro_nil <| zi h rfl (fun _ h => ?_) fun _ h => ?_
 ·refine wp_seq <| wp_text [0, 1] rfl <| za 6 (.pointer ((none : Option Addr))) rfl rfl <| za 7 (.int .i64 ((190 : Int))) rfl rfl <| ro_nil <| wp_ret ?_
  exact zr2 h rfl rfl
 ·refine wp_skip <| wp_seq <| wp_text [0, 1, 2, 3, 4, 5, 6, 7, 8, 9] rfl <| zm 22 (.pointer (d_1)) rfl rfl <| zm 23 (.int .i64 (log_2)) rfl rfl <| zc ent33 rfl rfl h fun r7 w6 h => zm 21 ((tTup3 tPtr tSlc (tInt .i64)).enc (r7)) rfl rfl <| ze 25 (.pointer (r7.1)) rfl rfl rfl <| ze 26 (tSlc.enc (r7.2.1)) rfl rfl rfl <| ze 27 (.int .i64 (r7.2.2)) rfl rfl rfl <| za 8 (.pointer (r7.1)) rfl rfl <| za 9 (tSlc.enc (r7.2.1)) rfl rfl ?_
  refine za 10 (.int .i64 (r7.2.2)) rfl rfl <| ro_nil <| wp_seq <| wp_seq <| wp_text [0, 1] rfl <| zm 28 (.int .i64 (r7.2.2)) rfl rfl <| rv 29 rfl rfl rfl (q_neq (a := r7.2.2) (b := (0 : Int)) rfl rfl rfl) <| ro_nil <| zi h rfl (fun _ h => ?_) fun _ h => ?_
  ·refine wp_seq <| wp_text [0, 1, 2] rfl <| zm 30 (.int .i64 (r7.2.2)) rfl rfl <| za 6 (.pointer ((none : Option Addr))) rfl rfl <| za 7 (.int .i64 (r7.2.2)) rfl rfl <| ro_nil <| wp_ret ?_
   exact zr2 h rfl rfl
  ·refine wp_skip <| wp_seq <| wp_text [0, 1, 2, 3, 4, 5, 6] rfl <| zm 32 (.float .f64 (rate_3)) rfl rfl <| zc ent34 rfl rfl h fun r9 w8 h => zm 31 ((tTup2 tPtr (tInt .i64)).enc (r9)) rfl rfl <| ze 34 (.pointer (r9.1)) rfl rfl rfl <| ze 35 (.int .i64 (r9.2)) rfl rfl rfl <| za 11 (.pointer (r9.1)) rfl rfl <| za 12 (.int .i64 (r9.2)) rfl rfl <| ro_nil <| wp_seq ?_
   refine wp_text [0, 1, 2, 3, 4] rfl <| zm 36 (.pointer (r7.1)) rfl rfl <| zm 37 (.pointer (r9.1)) rfl rfl <| rv 38 rfl rfl rfl (q_build46_0_1 (v0 := r7.1) (v1 := r9.1) rfl rfl rfl) ?_
   obtain ⟨a10, w11, ha10, hw11, h⟩ := nw_open h
   refine rv 39 rfl rfl rfl (q_box (u := (⟨r7.1, r9.1⟩ : S45)) rfl ok46 rfl ha10 hw11) <| za 13 (.pointer (some a10)) rfl rfl <| ro_nil <| wp_seq <| wp_seq <| wp_text [0, 1, 2] rfl <| zm 40 (tSlc.enc (r7.2.1)) rfl rfl <| rv 41 rfl rfl rfl (q_len (s := r7.2.1) rfl Tryz.underlying79 rfl) <| zm 42 (.int .i64 ((0 : Int))) rfl rfl <| ro_nil <| wp_block <| loop_at (σ := Int) (fr := fun g (s : Int) => upd (upd (upd (upd (g) 13 (.pointer ((some a10)))) 40 (tSlc.enc (r7.2.1))) 41 (.int .i64 ((r7.2.1.len : Int)))) 42 (.int .i64 (s))) (s0 := ((0 : Int))) (upd_step (upd_step (upd_step (upd_step rfl rfl) rfl) rfl) rfl) h ?_
   rintro t_12 g w13 K14 h
   unfold F13_l1 at h
   refine wp_seq <| wp_text [0] rfl <| rv 43 rfl rfl rfl (q_lss (a := t_12) (b := (r7.2.1.len : Int)) rfl rfl rfl) <| ro_nil <| wp_seq <| zi h rfl (fun _ h => ?_) fun _ h => ?_
   ·refine wp_skip <| wp_seq <| wp_block <| wp_seq <| wp_text [0, 1, 2] rfl ?_
    obtain ⟨a15, ha15, h⟩ := h
    refine rv 44 rfl rfl rfl (q_indexAddr (s := r7.2.1) (k := .i64) (i := t_12) rfl Tryz.underlying79 ok25 rfl rfl ha15) ?_
    obtain ⟨x16, hx16, h⟩ := h
    refine zl 45 hx16 ok25 rfl rfl <| za 15 (tSlc.enc (x16)) rfl rfl <| ro_nil <| wp_seq <| wp_text [0, 1, 2, 3, 4, 5, 6, 7] rfl <| zm 47 (tSlc.enc (x16)) rfl rfl <| zc ent9 rfl rfl h fun r18 w17 h => zm 46 ((tTup2 T22 tBool).enc (r18)) rfl rfl <| ze 49 (T22.enc (r18.1)) rfl rfl rfl <| ze 50 (.bool (r18.2)) rfl rfl rfl ?_
    obtain ⟨a19, w20, ha19, hw20, h⟩ := nw_open h
    refine rv 16 rfl rfl rfl (q_alloc (u := Z22) rfl ok23 inf23 ha19 hw20) ?_
    obtain ⟨w21, hw21, hrw21, h⟩ := st_open h
    refine ro_skip (d := none) rfl (.free rfl) rfl (q_store (T := T22) (u := r18.1) (a := a19) rfl ok23 rfl rfl hrw21 hw21) <| za 17 (.bool (r18.2)) rfl rfl <| ro_nil <| wp_seq <| wp_seq <| wp_text [0, 1] rfl <| zm 51 (.bool (r18.2)) rfl rfl <| rv 52 rfl rfl rfl (q_not (b := r18.2) rfl rfl) <| ro_nil <| zi h rfl (fun _ h => ?_) fun _ h => ?_
    ·refine wp_seq <| wp_text [0, 1] rfl <| za 6 (.pointer ((none : Option Addr))) rfl rfl <| za 7 (.int .i64 ((191 : Int))) rfl rfl <| ro_nil <| wp_ret ?_
     exact zr2 h rfl rfl
    ·refine wp_skip <| wp_text [0, 1, 2] rfl <| zm 53 (.pointer ((some a10))) rfl rfl ?_
     obtain ⟨x22, hx22, h⟩ := h
     refine zl 54 hx22 ok23 rfl rfl <| zc ent35 rfl rfl h fun r24 w23 h => ro_nil <| wp_text [0, 1] rfl <| rv 56 rfl rfl rfl (q_add (a := t_12) (b := (1 : Int)) rfl rfl rfl) <| zm 42 (.int .i64 ((IntKind.i64.wrap (t_12 + (1 : Int))))) rfl rfl <| ro_nil ?_
     exact ⟨((IntKind.i64.wrap (t_12 + (1 : Int)))), _, arr (upd_step (upd_step (upd_step (upd_step rfl rfl) rfl) rfl) rfl), h⟩
   ·refine wp_exit <| wp_seq <| wp_text [0, 1, 2] rfl <| zm 57 (.pointer ((some a10))) rfl rfl <| za 6 (.pointer ((some a10))) rfl rfl <| za 7 (.int .i64 ((0 : Int))) rfl rfl <| ro_nil <| wp_ret ?_
    exact zr2 h rfl rfl
def F14 (s_1 : (Option Addr)) (x_2 : S22) (w : World) (R : Int → World → Prop) : Prop :=
 nw 23 T22 x_2 w fun a3 w4 =>
 ex (RdAt (tInt .i64) (a3.add 0) w4) fun x5 =>
 cl Tryz.prog 29 [.int .i64 (x5)] tBool w4 fun r7 w6 =>
 if (!r7) = true then (
  R (192 : Int) w6
 ) else (
  dr w6 fun w8 =>
  ex (NC s_1) fun a9 =>
  ex (RdAt tPtr (a9.add 0) w8) fun x10 =>
  ex (RdAt T22 a3 w8) fun x11 =>
  cl Tryz.prog 8 [T22.enc (x11)] tSlc w8 fun r13 w12 =>
  kp ((RdAt tPtr (a9.add 0) w12) x10) <|
  cl Tryz.prog 36 [.pointer (x10), tSlc.enc (r13)] (tInt .i64) w12 fun r16 w15 =>
  kp ((RdAt T22 a3 w15) x11) <|
  if (r16 != (0 : Int)) = true then (
   R r16 w15
  ) else (
   ex (RdAt T22 a3 w15) fun x18 =>
   cl Tryz.prog 35 [.pointer (s_1), T22.enc (x18)] (tInt .i64) w15 fun r20 w19 =>
   R r20 w19
  )
 )
theorem F14_ok {s_1 : (Option Addr)} {x_2 : S22} {w : World} {R : Int → World → Prop} (h : F14 s_1 x_2 w R) : cl Tryz.prog 14 [.pointer (s_1), T22.enc (x_2)] (tInt .i64) w R := by
 unfold F14 at h
 refine calls_start 23 Tryz.func14 rfl rfl (Nat.le_of_ble_eq_true rfl) <| wp_seq <| wp_text [0, 1] rfl ?_
 obtain ⟨a3, w4, ha3, hw4, h⟩ := nw_open h
 refine rv 3 rfl rfl rfl (q_box (u := x_2) rfl ok23 rfl ha3 hw4) <| za 4 (.int .i64 ((0 : Int))) rfl rfl <| ro_nil <| wp_seq <| wp_seq <| wp_text [0, 1, 2, 3] rfl <| zf 6 a3 0 Tryz.underlying23 ok3 rfl rfl rfl ?_
 obtain ⟨x5, hx5, h⟩ := h
 refine zl 7 hx5 ok3 rfl rfl <| zc ent29 rfl rfl h fun r7 w6 h => rv 9 rfl rfl rfl (q_not (b := r7) rfl rfl) <| ro_nil <| zi h rfl (fun _ h => ?_) fun _ h => ?_
 ·refine wp_seq <| wp_text [0] rfl <| za 4 (.int .i64 ((192 : Int))) rfl rfl <| ro_nil <| wp_ret ?_
  exact zr1 h rfl rfl
 ·refine wp_skip <| wp_seq <| wp_seq ?_
  obtain ⟨w8, hw8, h⟩ := dr_open h
  refine wp_drawn 8 mixed rfl (by kernel_rfl) (by intro c a d v w h; cases d <;> exact h) hw8 (fun hD => ?_)
  refine ym 0 10 (.pointer (s_1)) hD rfl rfl ?_
  obtain ⟨a9, ha9, h⟩ := h
  refine yn 1 11 ha9 hD rfl rfl <| yf 2 12 a9 0 Tryz.underlying46 ok43 hD rfl rfl rfl ?_
  obtain ⟨x10, hx10, h⟩ := h
  refine yr 3 13 hx10 ok43 hD rfl rfl ?_
  obtain ⟨x11, hx11, h⟩ := h
  refine yr 4 14 hx11 ok23 hD rfl rfl <| rd_one (i := 5) (by kernel_rfl) <| po_wp rfl (.free rfl) (wp_cl (d := (some 15)) rfl (q_call (k := 8) (l := [T22.enc (x11)]) rfl ent8 rfl) h ?_)
  intro r13 w12 h
  obtain ⟨hk14, h⟩ := h
  refine ⟨(hk_wait (by kernel_rfl) (hk_keep (fun _ => hk14) hk_nil)), ?_⟩
  refine rd_one (i := 6) (by kernel_rfl) <| po_wp rfl (.free rfl) (wp_cl (d := (some 16)) rfl (q_call (k := 36) (l := [.pointer (x10), tSlc.enc (r13)]) rfl ent36 rfl) h ?_)
  intro r16 w15 h
  obtain ⟨hk17, h⟩ := h
  refine ⟨(hk_keep (fun _ => hk17) (hk_wait (by kernel_rfl) hk_nil)), ?_⟩
  refine ya 7 5 (.int .i64 (r16)) hD rfl rfl <| rd_nil (by kernel_rfl) <| wp_seq <| wp_text [0, 1] rfl <| zm 17 (.int .i64 (r16)) rfl rfl <| rv 18 rfl rfl rfl (q_neq (a := r16) (b := (0 : Int)) rfl rfl rfl) <| ro_nil <| zi h rfl (fun _ h => ?_) fun _ h => ?_
  ·refine wp_seq <| wp_text [0, 1] rfl <| zm 19 (.int .i64 (r16)) rfl rfl <| za 4 (.int .i64 (r16)) rfl rfl <| ro_nil <| wp_ret ?_
   exact zr1 h rfl rfl
  ·refine wp_skip <| wp_seq <| wp_text [0, 1, 2, 3] rfl <| zm 20 (.pointer (s_1)) rfl rfl ?_
   obtain ⟨x18, hx18, h⟩ := h
   refine zl 21 hx18 ok23 rfl rfl <| zc ent35 rfl rfl h fun r20 w19 h => za 4 (.int .i64 (r20)) rfl rfl <| ro_nil <| wp_ret ?_
   exact zr1 h rfl rfl
def F15_j1 (r10 : Int) (w13 : World) (R : Int → World → Prop) : Prop :=
 R r10 w13
def F15 (w_1 : (Option Addr)) (w : World) (R : Int → World → Prop) : Prop :=
 ex (NC w_1) fun a2 =>
 ex (RdAt tBool (a2.add 4) w) fun x3 =>
 if x3 = true then (
  R (81 : Int) w
 ) else (
  dr w fun w4 =>
  ex (RdAt tPtr (a2.add 2) w4) fun x5 =>
  ex (RdAt (tInt .i64) (a2.add 3) w4) fun x6 =>
  cl Tryz.prog 38 [.pointer (x5), .int .i64 (x6)] (tInt .i64) w4 fun r8 w7 =>
  cl Tryz.prog 37 [.pointer (w_1), .int .i64 (r8)] (tInt .i64) w7 fun r10 w9 =>
  kp ((RdAt tPtr (a2.add 2) w9) x5) <|
  kp ((RdAt (tInt .i64) (a2.add 3) w9) x6) <|
  if (r10 == (0 : Int)) = true then (
   ex (RdAt (tInt .i64) ((a2.add 0).add 0) w9) fun x14 =>
   st (tInt .i64) ((a2.add 0).add 1) x14 w9 fun w15 =>
   F15_j1 r10 w15 R
  ) else (
   F15_j1 r10 w9 R
  )
 )
theorem F15_ok {w_1 : (Option Addr)} {w : World} {R : Int → World → Prop} (h : F15 w_1 w R) : cl Tryz.prog 15 [.pointer (w_1)] (tInt .i64) w R := by
 unfold F15 at h
 refine calls_start 31 Tryz.func15 rfl rfl (Nat.le_of_ble_eq_true rfl) <| wp_seq <| wp_text [0] rfl <| za 2 (.int .i64 ((0 : Int))) rfl rfl <| ro_nil <| wp_seq <| wp_seq <| wp_text [0, 1, 2, 3] rfl <| zm 4 (.pointer (w_1)) rfl rfl ?_
 obtain ⟨a2, ha2, h⟩ := h
 refine zn 5 ha2 rfl rfl <| zf 6 a2 4 Tryz.underlying88 ok4 rfl rfl rfl ?_
 obtain ⟨x3, hx3, h⟩ := h
 refine zl 7 hx3 ok4 rfl rfl <| ro_nil <| zi h rfl (fun _ h => ?_) fun _ h => ?_
 ·refine wp_seq <| wp_text [0] rfl <| za 2 (.int .i64 ((81 : Int))) rfl rfl <| ro_nil <| wp_ret ?_
  exact zr1 h rfl rfl
 ·refine wp_skip <| wp_seq ?_
  obtain ⟨w4, hw4, h⟩ := dr_open h
  refine wp_drawn 12 mixed rfl (by kernel_rfl) (by intro c a d v w h; cases d <;> exact h) hw4 (fun hD => ?_)
  refine ym 0 8 (.pointer (w_1)) hD rfl rfl <| ym 1 9 (.pointer (w_1)) hD rfl rfl <| yn 2 10 ha2 hD rfl rfl <| yf 3 11 a2 2 Tryz.underlying88 ok33 hD rfl rfl rfl <| ym 5 13 (.pointer (w_1)) hD rfl rfl <| yn 6 14 ha2 hD rfl rfl <| yf 7 15 a2 3 Tryz.underlying88 ok3 hD rfl rfl rfl ?_
  obtain ⟨x5, hx5, h⟩ := h
  refine yr 4 12 hx5 ok33 hD rfl rfl ?_
  obtain ⟨x6, hx6, h⟩ := h
  refine yr 8 16 hx6 ok3 hD rfl rfl <| rd_one (i := 9) (by kernel_rfl) <| po_wp rfl (.free rfl) (wp_cl (d := (some 17)) rfl (q_call (k := 38) (l := [.pointer (x5), .int .i64 (x6)]) rfl ent38 rfl) h ?_)
  intro r8 w7 h
  refine ⟨(hk_wait (by kernel_rfl) (hk_wait (by kernel_rfl) hk_nil)), ?_⟩
  refine rd_one (i := 10) (by kernel_rfl) <| po_wp rfl (.free rfl) (wp_cl (d := (some 18)) rfl (q_call (k := 37) (l := [.pointer (w_1), .int .i64 (r8)]) rfl ent37 rfl) h ?_)
  intro r10 w9 h
  obtain ⟨hk11, h⟩ := h
  obtain ⟨hk12, h⟩ := h
  refine ⟨(hk_keep (fun _ => hk12) (hk_keep (fun _ => hk11) hk_nil)), ?_⟩
  refine ya 11 3 (.int .i64 (r10)) hD rfl rfl <| rd_nil (by kernel_rfl) <| seq_join (σ := Unit) (J := fun (s : Unit) w => F15_j1 r10 w R) (fr := fun g (s : Unit) => upd (g) 3 (.int .i64 (r10))) ?_ ?_
  ·rintro ⟨⟩ g w13 h
   unfold F15_j1 at h
   refine wp_seq <| wp_text [0, 1] rfl <| zm 30 (.int .i64 (r10)) rfl rfl <| za 2 (.int .i64 (r10)) rfl rfl <| ro_nil <| wp_ret ?_
   exact zr1 h rfl rfl
  ·refine wp_seq <| wp_text [0, 1] rfl <| zm 19 (.int .i64 (r10)) rfl rfl <| rv 20 rfl rfl rfl (q_eql (a := r10) (b := (0 : Int)) rfl rfl rfl) <| ro_nil <| zi h rfl (fun _ h => ?_) fun _ h => ?_
   ·refine wp_text [0, 1, 2, 3, 4, 5, 6, 7, 8, 9] rfl <| zm 21 (.pointer (w_1)) rfl rfl <| zm 22 (.pointer (w_1)) rfl rfl <| zn 23 ha2 rfl rfl <| zf 24 a2 0 Tryz.underlying88 ok86 rfl rfl rfl <| zf 25 (a2.add 0) 0 Tryz.underlying86 ok3 rfl rfl rfl ?_
    obtain ⟨x14, hx14, h⟩ := h
    refine zl 26 hx14 ok3 rfl rfl <| zn 27 ha2 rfl rfl <| zf 28 a2 0 Tryz.underlying88 ok86 rfl rfl rfl <| zf 29 (a2.add 0) 1 Tryz.underlying86 ok3 rfl rfl rfl ?_
    obtain ⟨w15, hw15, hrw15, h⟩ := st_open h
    refine ro_skip (d := none) rfl (.free rfl) rfl (q_store (T := (tInt .i64)) (u := x14) (a := ((a2.add 0).add 1)) rfl ok3 rfl rfl hrw15 hw15) <| ro_nil ?_
    exact ⟨(), _, arr (upd_step rfl rfl), h⟩
   ·refine wp_skip ?_
    exact ⟨(), _, arr (upd_step rfl rfl), h⟩
def F16_j2 (t_8 : Int) (a12 : Addr) (n_14 : Int) (w15 : World) (K10 : Int → World → Prop) (R : Unit → World → Prop) : Prop :=
 ex (RdAt tSlc (a12.add 0) w15) fun x16 =>
 ex (Sub x16 1 0 n_14 n_14) fun s17 =>
 st tSlc (a12.add 0) s17 w15 fun w18 =>
 st (tInt .i64) (a12.add 1) n_14 w18 fun w19 =>
 K10 ((IntKind.i64.wrap (t_8 + (1 : Int)))) w19
def F16_l1 (keep_2 : Slc) (a3 : Addr) (x7 : Slc) (t_8 : Int) (w9 : World) (K10 : Int → World → Prop) (R : Unit → World → Prop) : Prop :=
 if (decide (t_8 < (x7.len : Int))) = true then (
  ex (RdAt tSlc (a3.add 0) w9) fun x11 =>
  ex (IxA x11 2 t_8) fun a12 =>
  ex (RdAt (tInt .i64) (a12.add 1) w9) fun x13 =>
  if (decide (t_8 < (keep_2.len : Int))) = true then (
   dr w9 fun w20 =>
   ex (IxA keep_2 1 t_8) fun a21 =>
   ex (RdAt (tInt .i64) a21 w20) fun x22 =>
   ex (RdAt tSlc (a12.add 0) w20) fun x23 =>
   ex (RdAt (tInt .i64) (a12.add 1) w20) fun x24 =>
   F16_j2 t_8 a12 (IntKind.i64.wrap (x13 + (min (max x22 (0 : Int)) (IntKind.i64.wrap ((x23.len : Int) - x24))))) w20 K10 R
  ) else (
   F16_j2 t_8 a12 x13 w9 K10 R
  )
 ) else (
  R () w9
 )
def F16 (d_1 : (Option Addr)) (keep_2 : Slc) (w : World) (R : Unit → World → Prop) : Prop :=
 ex (NC d_1) fun a3 =>
 ex (RdAt tBool (a3.add 2) w) fun x4 =>
 if x4 = true then (
  R () w
 ) else (
  st tBool (a3.add 2) true w fun w5 =>
  st (tInt .i64) (a3.add 3) (0 : Int) w5 fun w6 =>
  ex (RdAt tSlc (a3.add 0) w6) fun x7 =>
  lp (fun (s : Int) w K => F16_l1 keep_2 a3 x7 s w K R) ((0 : Int)) w6
 )
theorem F16_ok {d_1 : (Option Addr)} {keep_2 : Slc} {w : World} {R : Unit → World → Prop} (h : F16 d_1 keep_2 w R) : cl Tryz.prog 16 [.pointer (d_1), tSlc.enc (keep_2)] tUnit w R := by
 unfold F16 at h
 refine calls_start 72 Tryz.func16 rfl rfl (Nat.le_of_ble_eq_true rfl) <| wp_seq <| wp_seq <| wp_text [0, 1, 2, 3] rfl <| zm 7 (.pointer (d_1)) rfl rfl ?_
 obtain ⟨a3, ha3, h⟩ := h
 refine zn 8 ha3 rfl rfl <| zf 9 a3 2 Tryz.underlying77 ok4 rfl rfl rfl ?_
 obtain ⟨x4, hx4, h⟩ := h
 refine zl 10 hx4 ok4 rfl rfl <| ro_nil <| zi h rfl (fun _ h => ?_) fun _ h => ?_
 ·refine wp_ret ?_
  exact ret_ok rfl .nil ⟨(), rfl, h⟩
 ·refine wp_skip <| wp_seq <| wp_text [0, 1, 2, 3, 4, 5, 6, 7] rfl <| zm 11 (.pointer (d_1)) rfl rfl <| zm 12 (.pointer (d_1)) rfl rfl <| zn 13 ha3 rfl rfl <| zf 14 a3 2 Tryz.underlying77 ok4 rfl rfl rfl ?_
  obtain ⟨w5, hw5, hrw5, h⟩ := st_open h
  refine ro_skip (d := none) rfl (.free rfl) rfl (q_store (T := tBool) (u := true) (a := (a3.add 2)) rfl ok4 rfl rfl hrw5 hw5) <| zn 15 ha3 rfl rfl <| zf 16 a3 3 Tryz.underlying77 ok3 rfl rfl rfl ?_
  obtain ⟨w6, hw6, hrw6, h⟩ := st_open h
  refine ro_skip (d := none) rfl (.free rfl) rfl (q_store (T := (tInt .i64)) (u := (0 : Int)) (a := (a3.add 3)) rfl ok3 rfl rfl hrw6 hw6) <| ro_nil <| wp_seq <| wp_text [0, 1, 2, 3, 4, 5] rfl <| zm 17 (.pointer (d_1)) rfl rfl <| zn 18 ha3 rfl rfl <| zf 19 a3 0 Tryz.underlying77 ok75 rfl rfl rfl ?_
  obtain ⟨x7, hx7, h⟩ := h
  refine zl 20 hx7 ok75 rfl rfl <| rv 21 rfl rfl rfl (q_len (s := x7) rfl Tryz.underlying75 rfl) <| zm 22 (.int .i64 ((0 : Int))) rfl rfl <| ro_nil <| wp_block <| loop_at (σ := Int) (fr := fun g (s : Int) => upd (upd (upd (upd (g) 0 (.pointer (d_1))) 1 (tSlc.enc (keep_2))) 21 (.int .i64 ((x7.len : Int)))) 22 (.int .i64 (s))) (s0 := ((0 : Int))) (upd_step (upd_step (upd_step (upd_step rfl rfl) rfl) rfl) rfl) h ?_
  rintro t_8 g w9 K10 h
  unfold F16_l1 at h
  refine wp_seq <| wp_text [0] rfl <| rv 23 rfl rfl rfl (q_lss (a := t_8) (b := (x7.len : Int)) rfl rfl rfl) <| ro_nil <| wp_seq <| zi h rfl (fun _ h => ?_) fun _ h => ?_
  ·refine wp_skip <| wp_seq <| wp_block <| wp_seq <| wp_text [0, 1] rfl <| zm 24 (.int .i64 (t_8)) rfl rfl <| za 4 (.int .i64 (t_8)) rfl rfl <| ro_nil <| wp_seq <| wp_text [0, 1, 2, 3, 4, 5, 6] rfl <| zm 25 (.pointer (d_1)) rfl rfl <| zn 26 ha3 rfl rfl ?_
   refine zf 27 a3 0 Tryz.underlying77 ok75 rfl rfl rfl ?_
   obtain ⟨x11, hx11, h⟩ := h
   refine zl 28 hx11 ok75 rfl rfl <| zm 29 (.int .i64 (t_8)) rfl rfl ?_
   obtain ⟨a12, ha12, h⟩ := h
   refine rv 30 rfl rfl rfl (q_indexAddr (s := x11) (k := .i64) (i := t_8) rfl Tryz.underlying75 ok93 rfl rfl ha12) <| za 5 (.pointer (some a12)) rfl rfl <| ro_nil <| wp_seq <| wp_text [0, 1, 2, 3, 4] rfl <| zm 31 (.pointer ((some a12))) rfl rfl <| rv 32 rfl rfl rfl (q_nilCheck (a := a12) rfl rfl) <| zf 33 a12 1 Tryz.underlying93 ok3 rfl rfl rfl ?_
   obtain ⟨x13, hx13, h⟩ := h
   refine zl 34 hx13 ok3 rfl rfl <| za 6 (.int .i64 (x13)) rfl rfl <| ro_nil <| seq_join (σ := Int) (J := fun (s : Int) w => F16_j2 t_8 a12 s w K10 R) (fr := fun g (s : Int) => upd (upd (upd (upd (upd (upd (g) 0 (.pointer (d_1))) 1 (tSlc.enc (keep_2))) 5 (.pointer ((some a12)))) 21 (.int .i64 ((x7.len : Int)))) 22 (.int .i64 (t_8))) 6 (.int .i64 (s))) ?_ ?_
   ·rintro n_14 g w15 h
    unfold F16_j2 at h
    refine wp_text [0, 1, 2, 3, 4, 5, 6, 7, 8, 9, 10, 11, 12, 13, 14, 15] rfl <| zm 57 (.pointer ((some a12))) rfl rfl <| zm 58 (.pointer ((some a12))) rfl rfl <| zm 59 (.pointer ((some a12))) rfl rfl <| rv 60 rfl rfl rfl (q_nilCheck (a := a12) rfl rfl) <| zf 61 a12 0 Tryz.underlying93 ok25 rfl rfl rfl ?_
    obtain ⟨x16, hx16, h⟩ := h
    refine zl 62 hx16 ok25 rfl rfl <| zm 63 (.int .i64 (n_14)) rfl rfl <| zm 64 (.int .i64 (n_14)) rfl rfl ?_
    obtain ⟨s17, hs17, h⟩ := h
    refine rv 65 rfl rfl rfl (q_sliceHM (s := x16) (h := n_14) (m := n_14) rfl Tryz.underlying25 ok5 rfl rfl rfl hs17) <| zm 66 (.int .i64 (n_14)) rfl rfl <| rv 67 rfl rfl rfl (q_nilCheck (a := a12) rfl rfl) <| zf 68 a12 0 Tryz.underlying93 ok25 rfl rfl rfl ?_
    obtain ⟨w18, hw18, hrw18, h⟩ := st_open h
    refine ro_skip (d := none) rfl (.free rfl) rfl (q_store (T := tSlc) (u := s17) (a := (a12.add 0)) rfl ok25 rfl rfl hrw18 hw18) <| rv 69 rfl rfl rfl (q_nilCheck (a := a12) rfl rfl) <| zf 70 a12 1 Tryz.underlying93 ok3 rfl rfl rfl ?_
    obtain ⟨w19, hw19, hrw19, h⟩ := st_open h
    refine ro_skip (d := none) rfl (.free rfl) rfl (q_store (T := (tInt .i64)) (u := n_14) (a := (a12.add 1)) rfl ok3 rfl rfl hrw19 hw19) <| ro_nil <| wp_text [0, 1] rfl <| rv 71 rfl rfl rfl (q_add (a := t_8) (b := (1 : Int)) rfl rfl rfl) <| zm 22 (.int .i64 ((IntKind.i64.wrap (t_8 + (1 : Int))))) rfl rfl <| ro_nil ?_
    exact ⟨((IntKind.i64.wrap (t_8 + (1 : Int)))), _, arr (upd_step (upd_step (upd_step (upd_step rfl rfl) rfl) rfl) rfl), h⟩
   ·refine wp_seq <| wp_text [0, 1, 2, 3] rfl <| zm 35 (.int .i64 (t_8)) rfl rfl <| zm 36 (tSlc.enc (keep_2)) rfl rfl <| rv 37 rfl rfl rfl (q_len (s := keep_2) rfl Tryz.underlying57 rfl) <| rv 38 rfl rfl rfl (q_lss (a := t_8) (b := (keep_2.len : Int)) rfl rfl rfl) <| ro_nil <| zi h rfl (fun _ h => ?_) fun _ h => ?_
    ·obtain ⟨w20, hw20, h⟩ := dr_open h
     refine wp_drawn 19 mixed rfl (by kernel_rfl) (by intro c a d v w h; cases d <;> exact h) hw20 (fun hD => ?_)
     refine ym 0 39 (.int .i64 (x13)) hD rfl rfl <| ym 1 40 (tSlc.enc (keep_2)) hD rfl rfl <| ym 2 41 (.int .i64 (t_8)) hD rfl rfl ?_
     obtain ⟨a21, ha21, h⟩ := h
     refine rp 3 42 hD rfl rfl rfl (fun _ => q_indexAddr (s := keep_2) (k := .i64) (i := t_8) rfl Tryz.underlying57 ok3 rfl rfl ha21) <| ym 6 45 (.pointer ((some a12))) hD rfl rfl <| rp 7 46 hD rfl rfl rfl (fun _ => q_nilCheck (a := a12) rfl rfl) <| yf 8 47 a12 0 Tryz.underlying93 ok25 hD rfl rfl rfl <| ym 11 50 (.pointer ((some a12))) hD rfl rfl <| rp 12 51 hD rfl rfl rfl (fun _ => q_nilCheck (a := a12) rfl rfl) <| yf 13 52 a12 1 Tryz.underlying93 ok3 hD rfl rfl rfl ?_
     obtain ⟨x22, hx22, h⟩ := h
     refine yr 4 43 hx22 ok3 hD rfl rfl <| rp 5 44 hD rfl rfl rfl (fun _ => q_max (a := x22) (b := (0 : Int)) rfl rfl rfl) ?_
     obtain ⟨x23, hx23, h⟩ := h
     refine yr 9 48 hx23 ok25 hD rfl rfl <| rp 10 49 hD rfl rfl rfl (fun _ => q_len (s := x23) rfl Tryz.underlying25 rfl) ?_
     obtain ⟨x24, hx24, h⟩ := h
     refine yr 14 53 hx24 ok3 hD rfl rfl <| rp 15 54 hD rfl rfl rfl (fun _ => q_sub (a := (x23.len : Int)) (b := x24) rfl rfl rfl) <| rp 16 55 hD rfl rfl rfl (fun _ => q_min (a := (max x22 (0 : Int))) (b := (IntKind.i64.wrap ((x23.len : Int) - x24))) rfl rfl rfl) <| rp 17 56 hD rfl rfl rfl (fun _ => q_add (a := x13) (b := (min (max x22 (0 : Int)) (IntKind.i64.wrap ((x23.len : Int) - x24)))) rfl rfl rfl) <| ya 18 6 (.int .i64 ((IntKind.i64.wrap (x13 + (min (max x22 (0 : Int)) (IntKind.i64.wrap ((x23.len : Int) - x24))))))) hD rfl rfl <| rd_nil (by kernel_rfl) ?_
     exact ⟨((IntKind.i64.wrap (x13 + (min (max x22 (0 : Int)) (IntKind.i64.wrap ((x23.len : Int) - x24)))))), _, arr (upd_step (upd_step (upd_step (upd_step (upd_step (upd_step rfl rfl) rfl) rfl) rfl) rfl) rfl), h⟩
    ·refine wp_skip ?_
     exact ⟨(x13), _, arr (upd_step (upd_step (upd_step (upd_step (upd_step (upd_step rfl rfl) rfl) rfl) rfl) rfl) rfl), h⟩
  ·refine wp_exit ?_
   exact end_ok rfl .nil ⟨(), rfl, h⟩
def F17 (d_1 : (Option Addr)) (w : World) (R : Unit → World → Prop) : Prop :=
 ex (NC d_1) fun a2 =>
 st tBool (a2.add 2) false w fun w3 =>
 R () w3
theorem F17_ok {d_1 : (Option Addr)} {w : World} {R : Unit → World → Prop} (h : F17 d_1 w R) : cl Tryz.prog 17 [.pointer (d_1)] tUnit w R := by
 unfold F17 at h
 refine calls_start 5 Tryz.func17 rfl rfl (Nat.le_of_ble_eq_true rfl) <| wp_text [0, 1, 2, 3] rfl <| zm 2 (.pointer (d_1)) rfl rfl ?_
 obtain ⟨a2, ha2, h⟩ := h
 refine zn 3 ha2 rfl rfl <| zf 4 a2 2 Tryz.underlying77 ok4 rfl rfl rfl ?_
 obtain ⟨w3, hw3, hrw3, h⟩ := st_open h
 refine ro_skip (d := none) rfl (.free rfl) rfl (q_store (T := tBool) (u := false) (a := (a2.add 2)) rfl ok4 rfl rfl hrw3 hw3) <| ro_nil ?_
 exact end_ok rfl .nil ⟨(), rfl, h⟩
end Go.Proofs.YtehclfjjjiiieaaGreat.Cf
namespace Go.Proofs.YtehclfjjjiiieaaGreat.Cf
open Go
set_option maxRecDepth 100000
set_option maxHeartbeats 1000000
set_option linter.unusedVariables false
set_option linter.unusedSimpArgs false
def F18_j3 (t_30 : Bool) (w31 : World) (R : Bool → World → Prop) : Prop :=
 R t_30 w31
def F18_l2 (v_1 : (Option Addr)) (w_2 : (Option Addr)) (l_3 : Slc) (i_6 : Int) (w7 : World) (K8 : Int → World → Prop) (R : Bool → World → Prop) : Prop :=
 if (decide (i_6 < (l_3.len : Int))) = true then (
  ex (IxA l_3 6 i_6) fun a9 =>
  ex (RdAt (tInt .i64) (a9.add 2) w7) fun x10 =>
  cl Tryz.prog 43 [.pointer (v_1), .int .i64 (x10)] (tTup2 (tInt .i64) (tInt .i64)) w7 fun r12 w11 =>
  ex (IxA l_3 6 i_6) fun a13 =>
  ex (RdAt (tInt .i64) (a13.add 2) w11) fun x14 =>
  cl Tryz.prog 43 [.pointer (w_2), .int .i64 (x14)] (tTup2 (tInt .i64) (tInt .i64)) w11 fun r16 w15 =>
  if ((r12.1 != r16.1) || (r12.2 != r16.2)) = true then (
   R false w15
  ) else (
   K8 ((IntKind.i64.wrap (i_6 + (1 : Int)))) w15
  )
 ) else (
  ex (NC v_1) fun a18 =>
  ex (RdAt T95 (a18.add 0) w7) fun x19 =>
  cl Tryz.prog 39 [T95.enc (x19)] (tInt .i64) w7 fun r21 w20 =>
  cl Tryz.prog 44 [.pointer (v_1), .int .i64 (r21)] (tTup2 tSlc (tInt .i64)) w20 fun r23 w22 =>
  ex (NC w_2) fun a24 =>
  ex (RdAt T95 (a24.add 0) w22) fun x25 =>
  cl Tryz.prog 39 [T95.enc (x25)] (tInt .i64) w22 fun r27 w26 =>
  cl Tryz.prog 44 [.pointer (w_2), .int .i64 (r27)] (tTup2 tSlc (tInt .i64)) w26 fun r29 w28 =>
  if (r23.2 == r29.2) = true then (
   cl Tryz.prog 45 [tSlc.enc (r23.1), tSlc.enc (r29.1)] tBool w28 fun r34 w33 =>
   F18_j3 r34 w33 R
  ) else (
   F18_j3 false w28 R
  )
 )
def F18_j1 (v_1 : (Option Addr)) (w_2 : (Option Addr)) (l_3 : Slc) (t_4 : Bool) (w5 : World) (R : Bool → World → Prop) : Prop :=
 if t_4 = true then (
  R false w5
 ) else (
  lp (fun (s : Int) w K => F18_l2 v_1 w_2 l_3 s w K R) ((0 : Int)) w5
 )
def F18 (v_1 : (Option Addr)) (w_2 : (Option Addr)) (l_3 : Slc) (w : World) (R : Bool → World → Prop) : Prop :=
 dr w fun w37 =>
 if (v_1.isNone || w_2.isNone) = true then (
  if true = true then (
   F18_j1 v_1 w_2 l_3 true w37 R
  ) else (
   ex (NC v_1) fun a40 =>
   ex (NC w_2) fun a41 =>
   ex (RdAt T95 (a40.add 0) w37) fun x42 =>
   ex (RdAt T95 (a41.add 0) w37) fun x43 =>
   cl Tryz.prog 39 [T95.enc (x42)] (tInt .i64) w37 fun r45 w44 =>
   kp ((RdAt T95 (a41.add 0) w44) x43) <|
   cl Tryz.prog 39 [T95.enc (x43)] (tInt .i64) w44 fun r48 w47 =>
   kp ((RdAt T95 (a40.add 0) w47) x42) <|
   if (r45 != r48) = true then (
    cl Tryz.prog 42 [.pointer (v_1)] tSlc w47 fun r52 w51 =>
    kp ((RdAt T95 (a40.add 0) w51) x42) <|
    kp ((RdAt T95 (a41.add 0) w51) x43) <|
    cl Tryz.prog 42 [.pointer (w_2)] tSlc w51 fun r56 w55 =>
    kp ((RdAt T95 (a40.add 0) w55) x42) <|
    kp ((RdAt T95 (a41.add 0) w55) x43) <|
    cl Tryz.prog 41 [tSlc.enc (r52), tSlc.enc (r56)] tBool w55 fun r60 w59 =>
    kp ((RdAt T95 (a40.add 0) w59) x42) <|
    kp ((RdAt T95 (a41.add 0) w59) x43) <|
    F18_j1 v_1 w_2 l_3 (!r60) w59 R
   ) else (
    ex (RdAt T95 (a40.add 0) w47) fun x63 =>
    ex (RdAt T95 (a41.add 0) w47) fun x64 =>
    cl Tryz.prog 40 [T95.enc (x63)] (tInt .i64) w47 fun r66 w65 =>
    kp ((RdAt T95 (a40.add 0) w65) x42) <|
    kp ((RdAt T95 (a41.add 0) w65) x43) <|
    kp ((RdAt T95 (a41.add 0) w65) x64) <|
    cl Tryz.prog 40 [T95.enc (x64)] (tInt .i64) w65 fun r71 w70 =>
    kp ((RdAt T95 (a40.add 0) w70) x42) <|
    kp ((RdAt T95 (a41.add 0) w70) x43) <|
    kp ((RdAt T95 (a40.add 0) w70) x63) <|
    if (r66 != r71) = true then (
     F18_j1 v_1 w_2 l_3 true w70 R
    ) else (
     cl Tryz.prog 42 [.pointer (v_1)] tSlc w70 fun r77 w76 =>
     kp ((RdAt T95 (a40.add 0) w76) x42) <|
     kp ((RdAt T95 (a41.add 0) w76) x43) <|
     kp ((RdAt T95 (a40.add 0) w76) x63) <|
     kp ((RdAt T95 (a41.add 0) w76) x64) <|
     cl Tryz.prog 42 [.pointer (w_2)] tSlc w76 fun r83 w82 =>
     kp ((RdAt T95 (a40.add 0) w82) x42) <|
     kp ((RdAt T95 (a41.add 0) w82) x43) <|
     kp ((RdAt T95 (a40.add 0) w82) x63) <|
     kp ((RdAt T95 (a41.add 0) w82) x64) <|
     cl Tryz.prog 41 [tSlc.enc (r77), tSlc.enc (r83)] tBool w82 fun r89 w88 =>
     kp ((RdAt T95 (a40.add 0) w88) x42) <|
     kp ((RdAt T95 (a41.add 0) w88) x43) <|
     kp ((RdAt T95 (a40.add 0) w88) x63) <|
     kp ((RdAt T95 (a41.add 0) w88) x64) <|
     F18_j1 v_1 w_2 l_3 (!r89) w88 R
    )
   )
  )
 ) else (
  cl Tryz.prog 25 [.pointer (v_1)] (tInt .i64) w37 fun r95 w94 =>
  cl Tryz.prog 25 [.pointer (w_2)] (tInt .i64) w94 fun r97 w96 =>
  if (r95 != r97) = true then (
   if true = true then (
    F18_j1 v_1 w_2 l_3 true w96 R
   ) else (
    ex (NC v_1) fun a100 =>
    ex (NC w_2) fun a101 =>
    ex (RdAt T95 (a100.add 0) w96) fun x102 =>
    ex (RdAt T95 (a101.add 0) w96) fun x103 =>
    cl Tryz.prog 40 [T95.enc (x102)] (tInt .i64) w96 fun r105 w104 =>
    kp ((RdAt T95 (a101.add 0) w104) x103) <|
    cl Tryz.prog 40 [T95.enc (x103)] (tInt .i64) w104 fun r108 w107 =>
    kp ((RdAt T95 (a100.add 0) w107) x102) <|
    if (r105 != r108) = true then (
     F18_j1 v_1 w_2 l_3 true w107 R
    ) else (
     cl Tryz.prog 42 [.pointer (v_1)] tSlc w107 fun r112 w111 =>
     kp ((RdAt T95 (a100.add 0) w111) x102) <|
     kp ((RdAt T95 (a101.add 0) w111) x103) <|
     cl Tryz.prog 42 [.pointer (w_2)] tSlc w111 fun r116 w115 =>
     kp ((RdAt T95 (a100.add 0) w115) x102) <|
     kp ((RdAt T95 (a101.add 0) w115) x103) <|
     cl Tryz.prog 41 [tSlc.enc (r112), tSlc.enc (r116)] tBool w115 fun r120 w119 =>
     kp ((RdAt T95 (a100.add 0) w119) x102) <|
     kp ((RdAt T95 (a101.add 0) w119) x103) <|
     F18_j1 v_1 w_2 l_3 (!r120) w119 R
    )
   )
  ) else (
   ex (NC v_1) fun a123 =>
   ex (NC w_2) fun a124 =>
   ex (RdAt T95 (a123.add 0) w96) fun x125 =>
   ex (RdAt T95 (a124.add 0) w96) fun x126 =>
   cl Tryz.prog 39 [T95.enc (x125)] (tInt .i64) w96 fun r128 w127 =>
   kp ((RdAt T95 (a124.add 0) w127) x126) <|
   cl Tryz.prog 39 [T95.enc (x126)] (tInt .i64) w127 fun r131 w130 =>
   kp ((RdAt T95 (a123.add 0) w130) x125) <|
   if (r128 != r131) = true then (
    if true = true then (
     F18_j1 v_1 w_2 l_3 true w130 R
    ) else (
     cl Tryz.prog 42 [.pointer (v_1)] tSlc w130 fun r136 w135 =>
     kp ((RdAt T95 (a123.add 0) w135) x125) <|
     kp ((RdAt T95 (a124.add 0) w135) x126) <|
     cl Tryz.prog 42 [.pointer (w_2)] tSlc w135 fun r140 w139 =>
     kp ((RdAt T95 (a123.add 0) w139) x125) <|
     kp ((RdAt T95 (a124.add 0) w139) x126) <|
     cl Tryz.prog 41 [tSlc.enc (r136), tSlc.enc (r140)] tBool w139 fun r144 w143 =>
     kp ((RdAt T95 (a123.add 0) w143) x125) <|
     kp ((RdAt T95 (a124.add 0) w143) x126) <|
     F18_j1 v_1 w_2 l_3 (!r144) w143 R
    )
   ) else (
    ex (RdAt T95 (a123.add 0) w130) fun x147 =>
    ex (RdAt T95 (a124.add 0) w130) fun x148 =>
    cl Tryz.prog 40 [T95.enc (x147)] (tInt .i64) w130 fun r150 w149 =>
    kp ((RdAt T95 (a123.add 0) w149) x125) <|
    kp ((RdAt T95 (a124.add 0) w149) x126) <|
    kp ((RdAt T95 (a124.add 0) w149) x148) <|
    cl Tryz.prog 40 [T95.enc (x148)] (tInt .i64) w149 fun r155 w154 =>
    kp ((RdAt T95 (a123.add 0) w154) x125) <|
    kp ((RdAt T95 (a124.add 0) w154) x126) <|
    kp ((RdAt T95 (a123.add 0) w154) x147) <|
    if (r150 != r155) = true then (
     F18_j1 v_1 w_2 l_3 true w154 R
    ) else (
     cl Tryz.prog 42 [.pointer (v_1)] tSlc w154 fun r161 w160 =>
     kp ((RdAt T95 (a123.add 0) w160) x125) <|
     kp ((RdAt T95 (a124.add 0) w160) x126) <|
     kp ((RdAt T95 (a123.add 0) w160) x147) <|
     kp ((RdAt T95 (a124.add 0) w160) x148) <|
     cl Tryz.prog 42 [.pointer (w_2)] tSlc w160 fun r167 w166 =>
     kp ((RdAt T95 (a123.add 0) w166) x125) <|
     kp ((RdAt T95 (a124.add 0) w166) x126) <|
     kp ((RdAt T95 (a123.add 0) w166) x147) <|
     kp ((RdAt T95 (a124.add 0) w166) x148) <|
     cl Tryz.prog 41 [tSlc.enc (r161), tSlc.enc (r167)] tBool w166 fun r173 w172 =>
     kp ((RdAt T95 (a123.add 0) w172) x125) <|
     kp ((RdAt T95 (a124.add 0) w172) x126) <|
     kp ((RdAt T95 (a123.add 0) w172) x147) <|
     kp ((RdAt T95 (a124.add 0) w172) x148) <|
     F18_j1 v_1 w_2 l_3 (!r173) w172 R
    )
   )
  )
 )
theorem F18_ok {v_1 : (Option Addr)} {w_2 : (Option Addr)} {l_3 : Slc} {w : World} {R : Bool → World → Prop} (h : F18 v_1 w_2 l_3 w R) : cl Tryz.prog 18 [.pointer (v_1), .pointer (w_2), tSlc.enc (l_3)] tBool w R := by
 unfold F18 at h
 refine calls_start 125 Tryz.func18 rfl rfl (Nat.le_of_ble_eq_true rfl) <| wp_seq <| wp_text [0] rfl <| za 6 (.bool (false)) rfl rfl <| ro_nil <| wp_seq <| seq_join (σ := Bool) (J := fun (s : Bool) w => F18_j1 v_1 w_2 l_3 s w R) (fr := fun g (s : Bool) => upd (upd (upd (upd (g) 0 (.pointer (v_1))) 1 (.pointer (w_2))) 2 (tSlc.enc (l_3))) 62 (.bool (s))) ?_ ?_
 ·rintro t_4 g w5 h
  unfold F18_j1 at h
  refine zi h rfl (fun _ h => ?_) fun _ h => ?_
  ·refine wp_seq <| wp_text [0] rfl <| za 6 (.bool (false)) rfl rfl <| ro_nil <| wp_ret ?_
   exact zr1 h rfl rfl
  ·refine wp_skip <| wp_seq <| wp_seq <| wp_text [0] rfl <| za 7 (.int .i64 ((0 : Int))) rfl rfl <| ro_nil <| wp_block <| loop_at (σ := Int) (fr := fun g (s : Int) => upd (upd (upd (upd (g) 0 (.pointer (v_1))) 1 (.pointer (w_2))) 2 (tSlc.enc (l_3))) 7 (.int .i64 (s))) (s0 := ((0 : Int))) (upd_step (upd_step (upd_step (upd_step rfl rfl) rfl) rfl) rfl) h ?_
   rintro i_6 g w7 K8 h
   unfold F18_l2 at h
   refine wp_seq <| wp_seq <| wp_text [0, 1, 2, 3] rfl <| zm 63 (.int .i64 (i_6)) rfl rfl <| zm 64 (tSlc.enc (l_3)) rfl rfl <| rv 65 rfl rfl rfl (q_len (s := l_3) rfl Tryz.underlying32 rfl) <| rv 66 rfl rfl rfl (q_lss (a := i_6) (b := (l_3.len : Int)) rfl rfl rfl) <| ro_nil <| zi h rfl (fun _ h => ?_) fun _ h => ?_
   ·refine wp_skip <| wp_seq <| wp_block <| wp_seq <| wp_text [0, 1, 2, 3, 4, 5, 6, 7, 8, 9, 10, 11] rfl <| zm 70 (.pointer (v_1)) rfl rfl <| zm 71 (tSlc.enc (l_3)) rfl rfl <| zm 72 (.int .i64 (i_6)) rfl rfl ?_
    obtain ⟨a9, ha9, h⟩ := h
    refine rv 73 rfl rfl rfl (q_indexAddr (s := l_3) (k := .i64) (i := i_6) rfl Tryz.underlying32 ok23 rfl rfl ha9) <| zf 74 a9 2 Tryz.underlying23 ok3 rfl rfl rfl ?_
    obtain ⟨x10, hx10, h⟩ := h
    refine zl 75 hx10 ok3 rfl rfl <| zc ent43 rfl rfl h fun r12 w11 h => zm 69 ((tTup2 (tInt .i64) (tInt .i64)).enc (r12)) rfl rfl <| ze 77 (.int .i64 (r12.1)) rfl rfl rfl <| ze 78 (.int .i64 (r12.2)) rfl rfl rfl <| za 8 (.int .i64 (r12.1)) rfl rfl <| za 9 (.int .i64 (r12.2)) rfl rfl <| ro_nil <| wp_seq <| wp_text [0, 1, 2, 3, 4, 5, 6, 7, 8, 9, 10, 11] rfl <| zm 80 (.pointer (w_2)) rfl rfl <| zm 81 (tSlc.enc (l_3)) rfl rfl ?_
    refine zm 82 (.int .i64 (i_6)) rfl rfl ?_
    obtain ⟨a13, ha13, h⟩ := h
    refine rv 83 rfl rfl rfl (q_indexAddr (s := l_3) (k := .i64) (i := i_6) rfl Tryz.underlying32 ok23 rfl rfl ha13) <| zf 84 a13 2 Tryz.underlying23 ok3 rfl rfl rfl ?_
    obtain ⟨x14, hx14, h⟩ := h
    refine zl 85 hx14 ok3 rfl rfl <| zc ent43 rfl rfl h fun r16 w15 h => zm 79 ((tTup2 (tInt .i64) (tInt .i64)).enc (r16)) rfl rfl <| ze 87 (.int .i64 (r16.1)) rfl rfl rfl <| ze 88 (.int .i64 (r16.2)) rfl rfl rfl <| za 10 (.int .i64 (r16.1)) rfl rfl <| za 11 (.int .i64 (r16.2)) rfl rfl <| ro_nil <| wp_seq <| wp_text [0, 1, 2, 3, 4, 5, 6, 7] rfl <| zm 89 (.int .i64 (r12.1)) rfl rfl <| zm 90 (.int .i64 (r16.1)) rfl rfl ?_
    refine rv 91 rfl rfl rfl (q_neq (a := r12.1) (b := r16.1) rfl rfl rfl) <| zm 92 (.bool ((r12.1 != r16.1))) rfl rfl <| ro_gval (g := (!(r12.1 != r16.1))) (d := (some 93)) rfl (.no 3 92 true (r12.1 != r16.1) rfl rfl rfl rfl) rfl (fun hg => q_move (v := .int .i64 (r12.2)) rfl rfl) <| ro_gval (g := (!(r12.1 != r16.1))) (d := (some 94)) rfl (.no 3 92 true (r12.1 != r16.1) rfl rfl rfl rfl) rfl (fun hg => q_move (v := .int .i64 (r16.2)) rfl rfl) <| ro_gval (g := (!(r12.1 != r16.1))) (d := (some 95)) rfl (.no 3 92 true (r12.1 != r16.1) rfl rfl rfl rfl) rfl (fun hg => q_neq (k := .i64) (a := r12.2) (b := r16.2) rfl (gvb_yes hg) (gvb_yes hg)) <| rv 96 rfl rfl rfl (q_pickGF (a := (r12.1 != r16.1)) (c := (r12.2 != r16.2)) rfl rfl rfl rfl) <| ro_nil <| zi h rfl (fun _ h => ?_) fun _ h => ?_
    ·refine wp_seq <| wp_text [0] rfl <| za 6 (.bool (false)) rfl rfl <| ro_nil <| wp_ret ?_
     exact zr1 h rfl rfl
    ·refine wp_skip <| wp_text [0, 1, 2] rfl <| zm 67 (.int .i64 (i_6)) rfl rfl <| rv 68 rfl rfl rfl (q_add (a := i_6) (b := (1 : Int)) rfl rfl rfl) <| za 7 (.int .i64 ((IntKind.i64.wrap (i_6 + (1 : Int))))) rfl rfl <| ro_nil ?_
     exact ⟨((IntKind.i64.wrap (i_6 + (1 : Int)))), _, arr (upd_step (upd_step (upd_step (upd_step rfl rfl) rfl) rfl) rfl), h⟩
   ·refine wp_exit <| wp_seq <| wp_text [0, 1, 2, 3, 4, 5, 6, 7, 8, 9, 10, 11] rfl <| zm 98 (.pointer (v_1)) rfl rfl <| zm 99 (.pointer (v_1)) rfl rfl ?_
    obtain ⟨a18, ha18, h⟩ := h
    refine zn 100 ha18 rfl rfl <| zf 101 a18 0 Tryz.underlying101 ok96 rfl rfl rfl ?_
    obtain ⟨x19, hx19, h⟩ := h
    refine zl 102 hx19 ok96 rfl rfl <| zc ent39 rfl rfl h fun r21 w20 h => zc ent44 rfl rfl h fun r23 w22 h => zm 97 ((tTup2 tSlc (tInt .i64)).enc (r23)) rfl rfl <| ze 105 (tSlc.enc (r23.1)) rfl rfl rfl <| ze 106 (.int .i64 (r23.2)) rfl rfl rfl <| za 12 (tSlc.enc (r23.1)) rfl rfl <| za 13 (.int .i64 (r23.2)) rfl rfl <| ro_nil <| wp_seq <| wp_text [0, 1, 2, 3, 4, 5, 6, 7, 8, 9, 10, 11] rfl <| zm 108 (.pointer (w_2)) rfl rfl ?_
    refine zm 109 (.pointer (w_2)) rfl rfl ?_
    obtain ⟨a24, ha24, h⟩ := h
    refine zn 110 ha24 rfl rfl <| zf 111 a24 0 Tryz.underlying101 ok96 rfl rfl rfl ?_
    obtain ⟨x25, hx25, h⟩ := h
    refine zl 112 hx25 ok96 rfl rfl <| zc ent39 rfl rfl h fun r27 w26 h => zc ent44 rfl rfl h fun r29 w28 h => zm 107 ((tTup2 tSlc (tInt .i64)).enc (r29)) rfl rfl <| ze 115 (tSlc.enc (r29.1)) rfl rfl rfl <| ze 116 (.int .i64 (r29.2)) rfl rfl rfl <| za 14 (tSlc.enc (r29.1)) rfl rfl <| za 15 (.int .i64 (r29.2)) rfl rfl <| ro_nil <| wp_seq <| wp_text [0, 1, 2, 3, 4, 5, 6, 7, 8] rfl <| zm 117 (.int .i64 (r23.2)) rfl rfl ?_
    refine zm 118 (.int .i64 (r29.2)) rfl rfl <| rv 119 rfl rfl rfl (q_eql (a := r23.2) (b := r29.2) rfl rfl rfl) <| zm 120 (.bool ((r23.2 == r29.2))) rfl rfl <| ro_join (σ := Bool) (J := fun (s : Bool) w => F18_j3 s w R) (fr := fun g (s : Bool) => upd (g) 124 (.bool (s))) [4, 5, 6, 7] [8] ?_ ?_
    ·rintro t_30 g w31 h
     unfold F18_j3 at h
     refine za 6 (.bool (t_30)) rfl rfl <| ro_nil <| wp_ret ?_
     exact zr1 h rfl rfl
    ·refine ro_if (b := (r23.2 == r29.2)) h (fun hb32 h => ?_) (fun hb32 h => ?_)
     ·refine ro_val (d := (some 121)) rfl (.by_ 3 true 120 (r23.2 == r29.2) rfl rfl rfl hb32) rfl (q_move (v := tSlc.enc (r23.1)) rfl rfl) <| ro_val (d := (some 122)) rfl (.by_ 3 true 120 (r23.2 == r29.2) rfl rfl rfl hb32) rfl (q_move (v := tSlc.enc (r29.1)) rfl rfl) <| ro_wp rfl (.by_ 3 true 120 (r23.2 == r29.2) rfl rfl rfl hb32) (wp_cl (d := (some 123)) rfl (q_call (k := 45) (l := [tSlc.enc (r23.1), tSlc.enc (r29.1)]) rfl ent45 rfl) h ?_)
      intro r34 w33 h
      refine rv 124 rfl rfl rfl (q_pickT (v := .bool (r34)) (b := (r23.2 == r29.2)) rfl rfl hb32 rfl) <| ro_nil ?_
      exact ⟨(r34), _, arr (upd_step rfl rfl), h⟩
     ·refine ro_bar (d := (some 121)) rfl (.by_ 3 true 120 (r23.2 == r29.2) rfl rfl rfl hb32) rfl <| ro_bar (d := (some 122)) rfl (.by_ 3 true 120 (r23.2 == r29.2) rfl rfl rfl hb32) rfl <| ro_bar (d := (some 123)) rfl (.by_ 3 true 120 (r23.2 == r29.2) rfl rfl rfl hb32) rfl <| rv 124 rfl rfl rfl (q_pickF (v := .bool (false)) (b := (r23.2 == r29.2)) rfl rfl hb32 rfl) <| ro_nil ?_
      exact ⟨(false), _, arr (upd_step rfl rfl), h⟩
 ·obtain ⟨w37, hw37, h⟩ := dr_open h
  refine wp_drawn 47 mixed rfl (by kernel_rfl) (by intro c a d v w h; cases d <;> exact h) hw37 (fun hD => ?_)
  refine ym 0 16 (.pointer (v_1)) hD rfl rfl <| rp 1 17 hD rfl rfl rfl (fun _ => q_eqP0 (a := v_1) rfl Tryz.underlying44 rfl rfl) <| ym 2 18 (.bool (v_1.isNone)) hD rfl rfl <| rd_gpure (i := 3) (g := (!v_1.isNone)) (d := (some 19)) hD (by kernel_rfl) (by kernel_rfl) rfl (.no 2 18 true v_1.isNone rfl rfl rfl rfl) rfl (fun hg _ => q_move (v := .pointer (w_2)) rfl rfl) <| rd_gpure (i := 4) (g := (!v_1.isNone)) (d := (some 20)) hD (by kernel_rfl) (by kernel_rfl) rfl (.no 2 18 true v_1.isNone rfl rfl rfl rfl) rfl (fun hg _ => q_eqP0 (a := w_2) rfl Tryz.underlying44 (gvb_yes hg) rfl) <| rp 5 21 hD rfl rfl rfl (fun _ => q_pickGF (a := v_1.isNone) (c := w_2.isNone) rfl rfl rfl rfl) <| ym 6 22 (.bool ((v_1.isNone || w_2.isNone))) hD rfl rfl <| ro_if (b := (v_1.isNone || w_2.isNone)) h (fun hb38 h => ?_) (fun hb38 h => ?_)
  ·refine yb 7 23 hD rfl (.by_ 6 false 22 (v_1.isNone || w_2.isNone) rfl rfl rfl hb38) rfl <| yb 9 25 hD rfl (.by_ 6 false 22 (v_1.isNone || w_2.isNone) rfl rfl rfl hb38) rfl <| rd_one (i := 8) (by kernel_rfl) <| po_bar (d := (some 24)) rfl (.by_ 6 false 22 (v_1.isNone || w_2.isNone) rfl rfl rfl hb38) rfl ⟨fun _ _ _ h => h, ?_⟩
   refine rd_one (i := 10) (by kernel_rfl) <| po_bar (d := (some 26)) rfl (.by_ 6 false 22 (v_1.isNone || w_2.isNone) rfl rfl rfl hb38) rfl ⟨fun _ _ _ h => h, ?_⟩
   refine yb 11 27 hD rfl (.by_ 6 false 22 (v_1.isNone || w_2.isNone) rfl rfl rfl hb38) rfl <| rp 12 28 hD rfl rfl rfl (fun _ => q_pickT (v := .bool (true)) (b := (v_1.isNone || w_2.isNone)) rfl rfl hb38 rfl) <| ym 13 29 (.bool (true)) hD rfl rfl <| ro_if (b := true) h (fun hb39 h => ?_) (fun hb39 h => ?_)
   ·refine yb 14 30 hD rfl (.by_ 13 false 29 true rfl rfl rfl hb39) rfl <| yb 15 31 hD rfl (.by_ 13 false 29 true rfl rfl rfl hb39) rfl <| yb 16 32 hD rfl (.by_ 13 false 29 true rfl rfl rfl hb39) rfl <| yb 19 35 hD rfl (.by_ 13 false 29 true rfl rfl rfl hb39) rfl <| yb 20 36 hD rfl (.by_ 13 false 29 true rfl rfl rfl hb39) rfl <| yb 21 37 hD rfl (.by_ 13 false 29 true rfl rfl rfl hb39) rfl <| yb 17 33 hD rfl (.by_ 13 false 29 true rfl rfl rfl hb39) rfl <| yb 22 38 hD rfl (.by_ 13 false 29 true rfl rfl rfl hb39) rfl <| rd_one (i := 18) (by kernel_rfl) <| po_bar (d := (some 34)) rfl (.by_ 13 false 29 true rfl rfl rfl hb39) rfl ⟨fun _ _ _ h => h, ?_⟩
    refine rd_one (i := 23) (by kernel_rfl) <| po_bar (d := (some 39)) rfl (.by_ 13 false 29 true rfl rfl rfl hb39) rfl ⟨fun _ _ _ h => h, ?_⟩
    refine yb 24 40 hD rfl (.by_ 13 false 29 true rfl rfl rfl hb39) rfl <| rp 25 41 hD rfl rfl rfl (fun _ => q_pickT (v := .bool (true)) (b := true) rfl rfl hb39 rfl) <| ym 26 42 (.bool (true)) hD rfl rfl <| yb 27 43 hD rfl (.by_ 26 false 42 true rfl rfl rfl hb39) rfl <| yb 28 44 hD rfl (.by_ 26 false 42 true rfl rfl rfl hb39) rfl <| yb 29 45 hD rfl (.by_ 26 false 42 true rfl rfl rfl hb39) rfl <| yb 32 48 hD rfl (.by_ 26 false 42 true rfl rfl rfl hb39) rfl <| yb 33 49 hD rfl (.by_ 26 false 42 true rfl rfl rfl hb39) rfl <| yb 34 50 hD rfl (.by_ 26 false 42 true rfl rfl rfl hb39) rfl <| yb 30 46 hD rfl (.by_ 26 false 42 true rfl rfl rfl hb39) rfl <| yb 35 51 hD rfl (.by_ 26 false 42 true rfl rfl rfl hb39) rfl <| rd_one (i := 31) (by kernel_rfl) ?_
    refine po_bar (d := (some 47)) rfl (.by_ 26 false 42 true rfl rfl rfl hb39) rfl ⟨fun _ _ _ h => h, ?_⟩
    refine rd_one (i := 36) (by kernel_rfl) <| po_bar (d := (some 52)) rfl (.by_ 26 false 42 true rfl rfl rfl hb39) rfl ⟨fun _ _ _ h => h, ?_⟩
    refine yb 37 53 hD rfl (.by_ 26 false 42 true rfl rfl rfl hb39) rfl <| rp 38 54 hD rfl rfl rfl (fun _ => q_pickT (v := .bool (true)) (b := true) rfl rfl hb39 rfl) <| ym 39 55 (.bool (true)) hD rfl rfl <| yb 40 56 hD rfl (.by_ 39 false 55 true rfl rfl rfl hb39) rfl <| yb 42 58 hD rfl (.by_ 39 false 55 true rfl rfl rfl hb39) rfl <| rd_one (i := 41) (by kernel_rfl) <| po_bar (d := (some 57)) rfl (.by_ 39 false 55 true rfl rfl rfl hb39) rfl ⟨fun _ _ _ h => h, ?_⟩
    refine rd_one (i := 43) (by kernel_rfl) <| po_bar (d := (some 59)) rfl (.by_ 39 false 55 true rfl rfl rfl hb39) rfl ⟨fun _ _ _ h => h, ?_⟩
    refine rd_one (i := 44) (by kernel_rfl) <| po_bar (d := (some 60)) rfl (.by_ 39 false 55 true rfl rfl rfl hb39) rfl ⟨fun _ _ _ h => h, ?_⟩
    refine yb 45 61 hD rfl (.by_ 39 false 55 true rfl rfl rfl hb39) rfl <| rp 46 62 hD rfl rfl rfl (fun _ => q_pickT (v := .bool (true)) (b := true) rfl rfl hb39 rfl) <| rd_nil (by kernel_rfl) ?_
    exact ⟨(true), _, arr (upd_step (upd_step (upd_step (upd_step rfl rfl) rfl) rfl) rfl), h⟩
   ·refine rd_pure (i := 14) (d := (some 30)) hD (by kernel_rfl) (by kernel_rfl) rfl (.by_ 13 false 29 true rfl rfl rfl hb39) rfl (fun _ => q_move (v := .pointer (v_1)) rfl rfl) ?_
    obtain ⟨a40, ha40, h⟩ := h
    refine rd_pure (i := 15) (d := (some 31)) hD (by kernel_rfl) (by kernel_rfl) rfl (.by_ 13 false 29 true rfl rfl rfl hb39) rfl (fun _ => q_nilCheck (a := a40) rfl (congrArg Value.pointer ha40)) <| rd_pure (i := 16) (d := (some 32)) hD (by kernel_rfl) (by kernel_rfl) rfl (.by_ 13 false 29 true rfl rfl rfl hb39) rfl (fun _ => q_fieldAddr (a := a40) (off := 0) rfl Tryz.underlying101 rfl rfl ok96 (by decide) rfl) <| rd_pure (i := 19) (d := (some 35)) hD (by kernel_rfl) (by kernel_rfl) rfl (.by_ 13 false 29 true rfl rfl rfl hb39) rfl (fun _ => q_move (v := .pointer (w_2)) rfl rfl) ?_
    obtain ⟨a41, ha41, h⟩ := h
    refine rd_pure (i := 20) (d := (some 36)) hD (by kernel_rfl) (by kernel_rfl) rfl (.by_ 13 false 29 true rfl rfl rfl hb39) rfl (fun _ => q_nilCheck (a := a41) rfl (congrArg Value.pointer ha41)) <| rd_pure (i := 21) (d := (some 37)) hD (by kernel_rfl) (by kernel_rfl) rfl (.by_ 13 false 29 true rfl rfl rfl hb39) rfl (fun _ => q_fieldAddr (a := a41) (off := 0) rfl Tryz.underlying101 rfl rfl ok96 (by decide) rfl) ?_
    obtain ⟨x42, hx42, h⟩ := h
    refine rd_read (i := 17) (d := (some 33)) (fun W => (RdAt T95 (a40.add 0) W) x42) hD (by kernel_rfl) (by kernel_rfl) rfl (.by_ 13 false 29 true rfl rfl rfl hb39) rfl (fun W hr => q_load (T := T95) (u := x42) (a := (a40.add 0)) rfl ok96 rfl hr) hx42 ?_
    obtain ⟨x43, hx43, h⟩ := h
    refine rd_read (i := 22) (d := (some 38)) (fun W => (RdAt T95 (a41.add 0) W) x43) hD (by kernel_rfl) (by kernel_rfl) rfl (.by_ 13 false 29 true rfl rfl rfl hb39) rfl (fun W hr => q_load (T := T95) (u := x43) (a := (a41.add 0)) rfl ok96 rfl hr) hx43 <| rd_one (i := 18) (by kernel_rfl) <| po_wp rfl (.by_ 13 false 29 true rfl rfl rfl hb39) (wp_cl (d := (some 34)) rfl (q_call (k := 39) (l := [T95.enc (x42)]) rfl ent39 rfl) h ?_)
    intro r45 w44 h
    obtain ⟨hk46, h⟩ := h
    refine ⟨(hk_keep (fun _ => hk46) (hk_wait (by kernel_rfl) hk_nil)), ?_⟩
    refine rd_one (i := 23) (by kernel_rfl) <| po_wp rfl (.by_ 13 false 29 true rfl rfl rfl hb39) (wp_cl (d := (some 39)) rfl (q_call (k := 39) (l := [T95.enc (x43)]) rfl ent39 rfl) h ?_)
    intro r48 w47 h
    obtain ⟨hk49, h⟩ := h
    refine ⟨(hk_wait (by kernel_rfl) (hk_keep (fun _ => hk49) hk_nil)), ?_⟩
    refine rd_pure (i := 24) (d := (some 40)) hD (by kernel_rfl) (by kernel_rfl) rfl (.by_ 13 false 29 true rfl rfl rfl hb39) rfl (fun _ => q_neq (a := r45) (b := r48) rfl rfl rfl) <| rp 25 41 hD rfl rfl rfl (fun _ => q_pickF (v := .bool ((r45 != r48))) (b := true) rfl rfl hb39 rfl) <| ym 26 42 (.bool ((r45 != r48))) hD rfl rfl <| ro_if (b := (r45 != r48)) h (fun hb50 h => ?_) (fun hb50 h => ?_)
    ·refine yb 27 43 hD rfl (.by_ 26 false 42 (r45 != r48) rfl rfl rfl hb50) rfl <| yb 28 44 hD rfl (.by_ 26 false 42 (r45 != r48) rfl rfl rfl hb50) rfl <| yb 29 45 hD rfl (.by_ 26 false 42 (r45 != r48) rfl rfl rfl hb50) rfl <| yb 32 48 hD rfl (.by_ 26 false 42 (r45 != r48) rfl rfl rfl hb50) rfl <| yb 33 49 hD rfl (.by_ 26 false 42 (r45 != r48) rfl rfl rfl hb50) rfl <| yb 34 50 hD rfl (.by_ 26 false 42 (r45 != r48) rfl rfl rfl hb50) rfl <| yb 30 46 hD rfl (.by_ 26 false 42 (r45 != r48) rfl rfl rfl hb50) rfl <| yb 35 51 hD rfl (.by_ 26 false 42 (r45 != r48) rfl rfl rfl hb50) rfl <| rd_one (i := 31) (by kernel_rfl) <| po_bar (d := (some 47)) rfl (.by_ 26 false 42 (r45 != r48) rfl rfl rfl hb50) rfl ⟨fun _ _ _ h => h, ?_⟩
     refine rd_one (i := 36) (by kernel_rfl) <| po_bar (d := (some 52)) rfl (.by_ 26 false 42 (r45 != r48) rfl rfl rfl hb50) rfl ⟨fun _ _ _ h => h, ?_⟩
     refine yb 37 53 hD rfl (.by_ 26 false 42 (r45 != r48) rfl rfl rfl hb50) rfl <| rp 38 54 hD rfl rfl rfl (fun _ => q_pickT (v := .bool (true)) (b := (r45 != r48)) rfl rfl hb50 rfl) <| ym 39 55 (.bool (true)) hD rfl rfl <| rd_pure (i := 40) (d := (some 56)) hD (by kernel_rfl) (by kernel_rfl) rfl (.by_ 39 false 55 true rfl rfl rfl hb39) rfl (fun _ => q_move (v := .pointer (v_1)) rfl rfl) <| rd_pure (i := 42) (d := (some 58)) hD (by kernel_rfl) (by kernel_rfl) rfl (.by_ 39 false 55 true rfl rfl rfl hb39) rfl (fun _ => q_move (v := .pointer (w_2)) rfl rfl) <| rd_one (i := 41) (by kernel_rfl) <| po_wp rfl (.by_ 39 false 55 true rfl rfl rfl hb39) (wp_cl (d := (some 57)) rfl (q_call (k := 42) (l := [.pointer (v_1)]) rfl ent42 rfl) h ?_)
     intro r52 w51 h
     obtain ⟨hk53, h⟩ := h
     obtain ⟨hk54, h⟩ := h
     refine ⟨(hk_keep (fun _ => hk54) (hk_keep (fun _ => hk53) hk_nil)), ?_⟩
     refine rd_one (i := 43) (by kernel_rfl) <| po_wp rfl (.by_ 39 false 55 true rfl rfl rfl hb39) (wp_cl (d := (some 59)) rfl (q_call (k := 42) (l := [.pointer (w_2)]) rfl ent42 rfl) h ?_)
     intro r56 w55 h
     obtain ⟨hk57, h⟩ := h
     obtain ⟨hk58, h⟩ := h
     refine ⟨(hk_keep (fun _ => hk58) (hk_keep (fun _ => hk57) hk_nil)), ?_⟩
     refine rd_one (i := 44) (by kernel_rfl) <| po_wp rfl (.by_ 39 false 55 true rfl rfl rfl hb39) (wp_cl (d := (some 60)) rfl (q_call (k := 41) (l := [tSlc.enc (r52), tSlc.enc (r56)]) rfl ent41 rfl) h ?_)
     intro r60 w59 h
     obtain ⟨hk61, h⟩ := h
     obtain ⟨hk62, h⟩ := h
     refine ⟨(hk_keep (fun _ => hk62) (hk_keep (fun _ => hk61) hk_nil)), ?_⟩
     refine rd_pure (i := 45) (d := (some 61)) hD (by kernel_rfl) (by kernel_rfl) rfl (.by_ 39 false 55 true rfl rfl rfl hb39) rfl (fun _ => q_not (b := r60) rfl rfl) <| rp 46 62 hD rfl rfl rfl (fun _ => q_pickF (v := .bool ((!r60))) (b := true) rfl rfl hb39 rfl) <| rd_nil (by kernel_rfl) ?_
     exact ⟨((!r60)), _, arr (upd_step (upd_step (upd_step (upd_step rfl rfl) rfl) rfl) rfl), h⟩
    ·refine rd_pure (i := 27) (d := (some 43)) hD (by kernel_rfl) (by kernel_rfl) rfl (.by_ 26 false 42 (r45 != r48) rfl rfl rfl hb50) rfl (fun _ => q_move (v := .pointer (v_1)) rfl rfl) <| rd_pure (i := 28) (d := (some 44)) hD (by kernel_rfl) (by kernel_rfl) rfl (.by_ 26 false 42 (r45 != r48) rfl rfl rfl hb50) rfl (fun _ => q_nilCheck (a := a40) rfl (congrArg Value.pointer ha40)) <| rd_pure (i := 29) (d := (some 45)) hD (by kernel_rfl) (by kernel_rfl) rfl (.by_ 26 false 42 (r45 != r48) rfl rfl rfl hb50) rfl (fun _ => q_fieldAddr (a := a40) (off := 0) rfl Tryz.underlying101 rfl rfl ok96 (by decide) rfl) <| rd_pure (i := 32) (d := (some 48)) hD (by kernel_rfl) (by kernel_rfl) rfl (.by_ 26 false 42 (r45 != r48) rfl rfl rfl hb50) rfl (fun _ => q_move (v := .pointer (w_2)) rfl rfl) <| rd_pure (i := 33) (d := (some 49)) hD (by kernel_rfl) (by kernel_rfl) rfl (.by_ 26 false 42 (r45 != r48) rfl rfl rfl hb50) rfl (fun _ => q_nilCheck (a := a41) rfl (congrArg Value.pointer ha41)) <| rd_pure (i := 34) (d := (some 50)) hD (by kernel_rfl) (by kernel_rfl) rfl (.by_ 26 false 42 (r45 != r48) rfl rfl rfl hb50) rfl (fun _ => q_fieldAddr (a := a41) (off := 0) rfl Tryz.underlying101 rfl rfl ok96 (by decide) rfl) ?_
     obtain ⟨x63, hx63, h⟩ := h
     refine rd_read (i := 30) (d := (some 46)) (fun W => (RdAt T95 (a40.add 0) W) x63) hD (by kernel_rfl) (by kernel_rfl) rfl (.by_ 26 false 42 (r45 != r48) rfl rfl rfl hb50) rfl (fun W hr => q_load (T := T95) (u := x63) (a := (a40.add 0)) rfl ok96 rfl hr) hx63 ?_
     obtain ⟨x64, hx64, h⟩ := h
     refine rd_read (i := 35) (d := (some 51)) (fun W => (RdAt T95 (a41.add 0) W) x64) hD (by kernel_rfl) (by kernel_rfl) rfl (.by_ 26 false 42 (r45 != r48) rfl rfl rfl hb50) rfl (fun W hr => q_load (T := T95) (u := x64) (a := (a41.add 0)) rfl ok96 rfl hr) hx64 <| rd_one (i := 31) (by kernel_rfl) <| po_wp rfl (.by_ 26 false 42 (r45 != r48) rfl rfl rfl hb50) (wp_cl (d := (some 47)) rfl (q_call (k := 40) (l := [T95.enc (x63)]) rfl ent40 rfl) h ?_)
     intro r66 w65 h
     obtain ⟨hk67, h⟩ := h
     obtain ⟨hk68, h⟩ := h
     obtain ⟨hk69, h⟩ := h
     refine ⟨(hk_keep (fun _ => hk69) (hk_wait (by kernel_rfl) (hk_keep (fun _ => hk68) (hk_keep (fun _ => hk67) hk_nil)))), ?_⟩
     refine rd_one (i := 36) (by kernel_rfl) <| po_wp rfl (.by_ 26 false 42 (r45 != r48) rfl rfl rfl hb50) (wp_cl (d := (some 52)) rfl (q_call (k := 40) (l := [T95.enc (x64)]) rfl ent40 rfl) h ?_)
     intro r71 w70 h
     obtain ⟨hk72, h⟩ := h
     obtain ⟨hk73, h⟩ := h
     obtain ⟨hk74, h⟩ := h
     refine ⟨(hk_wait (by kernel_rfl) (hk_keep (fun _ => hk74) (hk_keep (fun _ => hk73) (hk_keep (fun _ => hk72) hk_nil)))), ?_⟩
     refine rd_pure (i := 37) (d := (some 53)) hD (by kernel_rfl) (by kernel_rfl) rfl (.by_ 26 false 42 (r45 != r48) rfl rfl rfl hb50) rfl (fun _ => q_neq (a := r66) (b := r71) rfl rfl rfl) <| rp 38 54 hD rfl rfl rfl (fun _ => q_pickF (v := .bool ((r66 != r71))) (b := (r45 != r48)) rfl rfl hb50 rfl) <| ym 39 55 (.bool ((r66 != r71))) hD rfl rfl <| ro_if (b := (r66 != r71)) h (fun hb75 h => ?_) (fun hb75 h => ?_)
     ·refine yb 40 56 hD rfl (.by_ 39 false 55 (r66 != r71) rfl rfl rfl hb75) rfl <| yb 42 58 hD rfl (.by_ 39 false 55 (r66 != r71) rfl rfl rfl hb75) rfl <| rd_one (i := 41) (by kernel_rfl) <| po_bar (d := (some 57)) rfl (.by_ 39 false 55 (r66 != r71) rfl rfl rfl hb75) rfl ⟨fun _ _ _ h => h, ?_⟩
      refine rd_one (i := 43) (by kernel_rfl) <| po_bar (d := (some 59)) rfl (.by_ 39 false 55 (r66 != r71) rfl rfl rfl hb75) rfl ⟨fun _ _ _ h => h, ?_⟩
      refine rd_one (i := 44) (by kernel_rfl) <| po_bar (d := (some 60)) rfl (.by_ 39 false 55 (r66 != r71) rfl rfl rfl hb75) rfl ⟨fun _ _ _ h => h, ?_⟩
      refine yb 45 61 hD rfl (.by_ 39 false 55 (r66 != r71) rfl rfl rfl hb75) rfl <| rp 46 62 hD rfl rfl rfl (fun _ => q_pickT (v := .bool (true)) (b := (r66 != r71)) rfl rfl hb75 rfl) <| rd_nil (by kernel_rfl) ?_
      exact ⟨(true), _, arr (upd_step (upd_step (upd_step (upd_step rfl rfl) rfl) rfl) rfl), h⟩
     ·refine rd_pure (i := 40) (d := (some 56)) hD (by kernel_rfl) (by kernel_rfl) rfl (.by_ 39 false 55 (r66 != r71) rfl rfl rfl hb75) rfl (fun _ => q_move (v := .pointer (v_1)) rfl rfl) <| rd_pure (i := 42) (d := (some 58)) hD (by kernel_rfl) (by kernel_rfl) rfl (.by_ 39 false 55 (r66 != r71) rfl rfl rfl hb75) rfl (fun _ => q_move (v := .pointer (w_2)) rfl rfl) <| rd_one (i := 41) (by kernel_rfl) <| po_wp rfl (.by_ 39 false 55 (r66 != r71) rfl rfl rfl hb75) (wp_cl (d := (some 57)) rfl (q_call (k := 42) (l := [.pointer (v_1)]) rfl ent42 rfl) h ?_)
      intro r77 w76 h
      obtain ⟨hk78, h⟩ := h
      obtain ⟨hk79, h⟩ := h
      obtain ⟨hk80, h⟩ := h
      obtain ⟨hk81, h⟩ := h
      refine ⟨(hk_keep (fun _ => hk81) (hk_keep (fun _ => hk80) (hk_keep (fun _ => hk79) (hk_keep (fun _ => hk78) hk_nil)))), ?_⟩
      refine rd_one (i := 43) (by kernel_rfl) <| po_wp rfl (.by_ 39 false 55 (r66 != r71) rfl rfl rfl hb75) (wp_cl (d := (some 59)) rfl (q_call (k := 42) (l := [.pointer (w_2)]) rfl ent42 rfl) h ?_)
      intro r83 w82 h
      obtain ⟨hk84, h⟩ := h
      obtain ⟨hk85, h⟩ := h
      obtain ⟨hk86, h⟩ := h
      obtain ⟨hk87, h⟩ := h
      refine ⟨(hk_keep (fun _ => hk87) (hk_keep (fun _ => hk86) (hk_keep (fun _ => hk85) (hk_keep (fun _ => hk84) hk_nil)))), ?_⟩
      refine rd_one (i := 44) (by kernel_rfl) <| po_wp rfl (.by_ 39 false 55 (r66 != r71) rfl rfl rfl hb75) (wp_cl (d := (some 60)) rfl (q_call (k := 41) (l := [tSlc.enc (r77), tSlc.enc (r83)]) rfl ent41 rfl) h ?_)
      intro r89 w88 h
      obtain ⟨hk90, h⟩ := h
      obtain ⟨hk91, h⟩ := h
      obtain ⟨hk92, h⟩ := h
      obtain ⟨hk93, h⟩ := h
      refine ⟨(hk_keep (fun _ => hk93) (hk_keep (fun _ => hk92) (hk_keep (fun _ => hk91) (hk_keep (fun _ => hk90) hk_nil)))), ?_⟩
      refine rd_pure (i := 45) (d := (some 61)) hD (by kernel_rfl) (by kernel_rfl) rfl (.by_ 39 false 55 (r66 != r71) rfl rfl rfl hb75) rfl (fun _ => q_not (b := r89) rfl rfl) <| rp 46 62 hD rfl rfl rfl (fun _ => q_pickF (v := .bool ((!r89))) (b := (r66 != r71)) rfl rfl hb75 rfl) <| rd_nil (by kernel_rfl) ?_
      exact ⟨((!r89)), _, arr (upd_step (upd_step (upd_step (upd_step rfl rfl) rfl) rfl) rfl), h⟩
  ·refine rd_pure (i := 7) (d := (some 23)) hD (by kernel_rfl) (by kernel_rfl) rfl (.by_ 6 false 22 (v_1.isNone || w_2.isNone) rfl rfl rfl hb38) rfl (fun _ => q_move (v := .pointer (v_1)) rfl rfl) <| rd_pure (i := 9) (d := (some 25)) hD (by kernel_rfl) (by kernel_rfl) rfl (.by_ 6 false 22 (v_1.isNone || w_2.isNone) rfl rfl rfl hb38) rfl (fun _ => q_move (v := .pointer (w_2)) rfl rfl) <| rd_one (i := 8) (by kernel_rfl) <| po_wp rfl (.by_ 6 false 22 (v_1.isNone || w_2.isNone) rfl rfl rfl hb38) (wp_cl (d := (some 24)) rfl (q_call (k := 25) (l := [.pointer (v_1)]) rfl ent25 rfl) h ?_)
   intro r95 w94 h
   refine ⟨hk_nil, ?_⟩
   refine rd_one (i := 10) (by kernel_rfl) <| po_wp rfl (.by_ 6 false 22 (v_1.isNone || w_2.isNone) rfl rfl rfl hb38) (wp_cl (d := (some 26)) rfl (q_call (k := 25) (l := [.pointer (w_2)]) rfl ent25 rfl) h ?_)
   intro r97 w96 h
   refine ⟨hk_nil, ?_⟩
   refine rd_pure (i := 11) (d := (some 27)) hD (by kernel_rfl) (by kernel_rfl) rfl (.by_ 6 false 22 (v_1.isNone || w_2.isNone) rfl rfl rfl hb38) rfl (fun _ => q_neq (a := r95) (b := r97) rfl rfl rfl) <| rp 12 28 hD rfl rfl rfl (fun _ => q_pickF (v := .bool ((r95 != r97))) (b := (v_1.isNone || w_2.isNone)) rfl rfl hb38 rfl) <| ym 13 29 (.bool ((r95 != r97))) hD rfl rfl <| ro_if (b := (r95 != r97)) h (fun hb98 h => ?_) (fun hb98 h => ?_)
   ·refine yb 14 30 hD rfl (.by_ 13 false 29 (r95 != r97) rfl rfl rfl hb98) rfl <| yb 15 31 hD rfl (.by_ 13 false 29 (r95 != r97) rfl rfl rfl hb98) rfl <| yb 16 32 hD rfl (.by_ 13 false 29 (r95 != r97) rfl rfl rfl hb98) rfl <| yb 19 35 hD rfl (.by_ 13 false 29 (r95 != r97) rfl rfl rfl hb98) rfl <| yb 20 36 hD rfl (.by_ 13 false 29 (r95 != r97) rfl rfl rfl hb98) rfl <| yb 21 37 hD rfl (.by_ 13 false 29 (r95 != r97) rfl rfl rfl hb98) rfl <| yb 17 33 hD rfl (.by_ 13 false 29 (r95 != r97) rfl rfl rfl hb98) rfl <| yb 22 38 hD rfl (.by_ 13 false 29 (r95 != r97) rfl rfl rfl hb98) rfl <| rd_one (i := 18) (by kernel_rfl) <| po_bar (d := (some 34)) rfl (.by_ 13 false 29 (r95 != r97) rfl rfl rfl hb98) rfl ⟨fun _ _ _ h => h, ?_⟩
    refine rd_one (i := 23) (by kernel_rfl) <| po_bar (d := (some 39)) rfl (.by_ 13 false 29 (r95 != r97) rfl rfl rfl hb98) rfl ⟨fun _ _ _ h => h, ?_⟩
    refine yb 24 40 hD rfl (.by_ 13 false 29 (r95 != r97) rfl rfl rfl hb98) rfl <| rp 25 41 hD rfl rfl rfl (fun _ => q_pickT (v := .bool (true)) (b := (r95 != r97)) rfl rfl hb98 rfl) <| ym 26 42 (.bool (true)) hD rfl rfl <| ro_if (b := true) h (fun hb99 h => ?_) (fun hb99 h => ?_)
    ·refine yb 27 43 hD rfl (.by_ 26 false 42 true rfl rfl rfl hb99) rfl <| yb 28 44 hD rfl (.by_ 26 false 42 true rfl rfl rfl hb99) rfl <| yb 29 45 hD rfl (.by_ 26 false 42 true rfl rfl rfl hb99) rfl <| yb 32 48 hD rfl (.by_ 26 false 42 true rfl rfl rfl hb99) rfl <| yb 33 49 hD rfl (.by_ 26 false 42 true rfl rfl rfl hb99) rfl <| yb 34 50 hD rfl (.by_ 26 false 42 true rfl rfl rfl hb99) rfl <| yb 30 46 hD rfl (.by_ 26 false 42 true rfl rfl rfl hb99) rfl <| yb 35 51 hD rfl (.by_ 26 false 42 true rfl rfl rfl hb99) rfl <| rd_one (i := 31) (by kernel_rfl) <| po_bar (d := (some 47)) rfl (.by_ 26 false 42 true rfl rfl rfl hb99) rfl ⟨fun _ _ _ h => h, ?_⟩
     refine rd_one (i := 36) (by kernel_rfl) <| po_bar (d := (some 52)) rfl (.by_ 26 false 42 true rfl rfl rfl hb99) rfl ⟨fun _ _ _ h => h, ?_⟩
     refine yb 37 53 hD rfl (.by_ 26 false 42 true rfl rfl rfl hb99) rfl <| rp 38 54 hD rfl rfl rfl (fun _ => q_pickT (v := .bool (true)) (b := true) rfl rfl hb99 rfl) <| ym 39 55 (.bool (true)) hD rfl rfl <| yb 40 56 hD rfl (.by_ 39 false 55 true rfl rfl rfl hb99) rfl <| yb 42 58 hD rfl (.by_ 39 false 55 true rfl rfl rfl hb99) rfl <| rd_one (i := 41) (by kernel_rfl) <| po_bar (d := (some 57)) rfl (.by_ 39 false 55 true rfl rfl rfl hb99) rfl ⟨fun _ _ _ h => h, ?_⟩
     refine rd_one (i := 43) (by kernel_rfl) <| po_bar (d := (some 59)) rfl (.by_ 39 false 55 true rfl rfl rfl hb99) rfl ⟨fun _ _ _ h => h, ?_⟩
     refine rd_one (i := 44) (by kernel_rfl) <| po_bar (d := (some 60)) rfl (.by_ 39 false 55 true rfl rfl rfl hb99) rfl ⟨fun _ _ _ h => h, ?_⟩
     refine yb 45 61 hD rfl (.by_ 39 false 55 true rfl rfl rfl hb99) rfl <| rp 46 62 hD rfl rfl rfl (fun _ => q_pickT (v := .bool (true)) (b := true) rfl rfl hb99 rfl) <| rd_nil (by kernel_rfl) ?_
     exact ⟨(true), _, arr (upd_step (upd_step (upd_step (upd_step rfl rfl) rfl) rfl) rfl), h⟩
    ·refine rd_pure (i := 27) (d := (some 43)) hD (by kernel_rfl) (by kernel_rfl) rfl (.by_ 26 false 42 true rfl rfl rfl hb99) rfl (fun _ => q_move (v := .pointer (v_1)) rfl rfl) ?_
     obtain ⟨a100, ha100, h⟩ := h
     refine rd_pure (i := 28) (d := (some 44)) hD (by kernel_rfl) (by kernel_rfl) rfl (.by_ 26 false 42 true rfl rfl rfl hb99) rfl (fun _ => q_nilCheck (a := a100) rfl (congrArg Value.pointer ha100)) <| rd_pure (i := 29) (d := (some 45)) hD (by kernel_rfl) (by kernel_rfl) rfl (.by_ 26 false 42 true rfl rfl rfl hb99) rfl (fun _ => q_fieldAddr (a := a100) (off := 0) rfl Tryz.underlying101 rfl rfl ok96 (by decide) rfl) <| rd_pure (i := 32) (d := (some 48)) hD (by kernel_rfl) (by kernel_rfl) rfl (.by_ 26 false 42 true rfl rfl rfl hb99) rfl (fun _ => q_move (v := .pointer (w_2)) rfl rfl) ?_
     obtain ⟨a101, ha101, h⟩ := h
     refine rd_pure (i := 33) (d := (some 49)) hD (by kernel_rfl) (by kernel_rfl) rfl (.by_ 26 false 42 true rfl rfl rfl hb99) rfl (fun _ => q_nilCheck (a := a101) rfl (congrArg Value.pointer ha101)) <| rd_pure (i := 34) (d := (some 50)) hD (by kernel_rfl) (by kernel_rfl) rfl (.by_ 26 false 42 true rfl rfl rfl hb99) rfl (fun _ => q_fieldAddr (a := a101) (off := 0) rfl Tryz.underlying101 rfl rfl ok96 (by decide) rfl) ?_
     obtain ⟨x102, hx102, h⟩ := h
     refine rd_read (i := 30) (d := (some 46)) (fun W => (RdAt T95 (a100.add 0) W) x102) hD (by kernel_rfl) (by kernel_rfl) rfl (.by_ 26 false 42 true rfl rfl rfl hb99) rfl (fun W hr => q_load (T := T95) (u := x102) (a := (a100.add 0)) rfl ok96 rfl hr) hx102 ?_
     obtain ⟨x103, hx103, h⟩ := h
     refine rd_read (i := 35) (d := (some 51)) (fun W => (RdAt T95 (a101.add 0) W) x103) hD (by kernel_rfl) (by kernel_rfl) rfl (.by_ 26 false 42 true rfl rfl rfl hb99) rfl (fun W hr => q_load (T := T95) (u := x103) (a := (a101.add 0)) rfl ok96 rfl hr) hx103 <| rd_one (i := 31) (by kernel_rfl) <| po_wp rfl (.by_ 26 false 42 true rfl rfl rfl hb99) (wp_cl (d := (some 47)) rfl (q_call (k := 40) (l := [T95.enc (x102)]) rfl ent40 rfl) h ?_)
     intro r105 w104 h
     obtain ⟨hk106, h⟩ := h
     refine ⟨(hk_keep (fun _ => hk106) (hk_wait (by kernel_rfl) hk_nil)), ?_⟩
     refine rd_one (i := 36) (by kernel_rfl) <| po_wp rfl (.by_ 26 false 42 true rfl rfl rfl hb99) (wp_cl (d := (some 52)) rfl (q_call (k := 40) (l := [T95.enc (x103)]) rfl ent40 rfl) h ?_)
     intro r108 w107 h
     obtain ⟨hk109, h⟩ := h
     refine ⟨(hk_wait (by kernel_rfl) (hk_keep (fun _ => hk109) hk_nil)), ?_⟩
     refine rd_pure (i := 37) (d := (some 53)) hD (by kernel_rfl) (by kernel_rfl) rfl (.by_ 26 false 42 true rfl rfl rfl hb99) rfl (fun _ => q_neq (a := r105) (b := r108) rfl rfl rfl) <| rp 38 54 hD rfl rfl rfl (fun _ => q_pickF (v := .bool ((r105 != r108))) (b := true) rfl rfl hb99 rfl) <| ym 39 55 (.bool ((r105 != r108))) hD rfl rfl <| ro_if (b := (r105 != r108)) h (fun hb110 h => ?_) (fun hb110 h => ?_)
     ·refine yb 40 56 hD rfl (.by_ 39 false 55 (r105 != r108) rfl rfl rfl hb110) rfl <| yb 42 58 hD rfl (.by_ 39 false 55 (r105 != r108) rfl rfl rfl hb110) rfl <| rd_one (i := 41) (by kernel_rfl) <| po_bar (d := (some 57)) rfl (.by_ 39 false 55 (r105 != r108) rfl rfl rfl hb110) rfl ⟨fun _ _ _ h => h, ?_⟩
      refine rd_one (i := 43) (by kernel_rfl) <| po_bar (d := (some 59)) rfl (.by_ 39 false 55 (r105 != r108) rfl rfl rfl hb110) rfl ⟨fun _ _ _ h => h, ?_⟩
      refine rd_one (i := 44) (by kernel_rfl) <| po_bar (d := (some 60)) rfl (.by_ 39 false 55 (r105 != r108) rfl rfl rfl hb110) rfl ⟨fun _ _ _ h => h, ?_⟩
      refine yb 45 61 hD rfl (.by_ 39 false 55 (r105 != r108) rfl rfl rfl hb110) rfl <| rp 46 62 hD rfl rfl rfl (fun _ => q_pickT (v := .bool (true)) (b := (r105 != r108)) rfl rfl hb110 rfl) <| rd_nil (by kernel_rfl) ?_
      exact ⟨(true), _, arr (upd_step (upd_step (upd_step (upd_step rfl rfl) rfl) rfl) rfl), h⟩
     ·refine rd_pure (i := 40) (d := (some 56)) hD (by kernel_rfl) (by kernel_rfl) rfl (.by_ 39 false 55 (r105 != r108) rfl rfl rfl hb110) rfl (fun _ => q_move (v := .pointer (v_1)) rfl rfl) <| rd_pure (i := 42) (d := (some 58)) hD (by kernel_rfl) (by kernel_rfl) rfl (.by_ 39 false 55 (r105 != r108) rfl rfl rfl hb110) rfl (fun _ => q_move (v := .pointer (w_2)) rfl rfl) <| rd_one (i := 41) (by kernel_rfl) <| po_wp rfl (.by_ 39 false 55 (r105 != r108) rfl rfl rfl hb110) (wp_cl (d := (some 57)) rfl (q_call (k := 42) (l := [.pointer (v_1)]) rfl ent42 rfl) h ?_)
      intro r112 w111 h
      obtain ⟨hk113, h⟩ := h
      obtain ⟨hk114, h⟩ := h
      refine ⟨(hk_keep (fun _ => hk114) (hk_keep (fun _ => hk113) hk_nil)), ?_⟩
      refine rd_one (i := 43) (by kernel_rfl) <| po_wp rfl (.by_ 39 false 55 (r105 != r108) rfl rfl rfl hb110) (wp_cl (d := (some 59)) rfl (q_call (k := 42) (l := [.pointer (w_2)]) rfl ent42 rfl) h ?_)
      intro r116 w115 h
      obtain ⟨hk117, h⟩ := h
      obtain ⟨hk118, h⟩ := h
      refine ⟨(hk_keep (fun _ => hk118) (hk_keep (fun _ => hk117) hk_nil)), ?_⟩
      refine rd_one (i := 44) (by kernel_rfl) <| po_wp rfl (.by_ 39 false 55 (r105 != r108) rfl rfl rfl hb110) (wp_cl (d := (some 60)) rfl (q_call (k := 41) (l := [tSlc.enc (r112), tSlc.enc (r116)]) rfl ent41 rfl) h ?_)
      intro r120 w119 h
      obtain ⟨hk121, h⟩ := h
      obtain ⟨hk122, h⟩ := h
      refine ⟨(hk_keep (fun _ => hk122) (hk_keep (fun _ => hk121) hk_nil)), ?_⟩
      refine rd_pure (i := 45) (d := (some 61)) hD (by kernel_rfl) (by kernel_rfl) rfl (.by_ 39 false 55 (r105 != r108) rfl rfl rfl hb110) rfl (fun _ => q_not (b := r120) rfl rfl) <| rp 46 62 hD rfl rfl rfl (fun _ => q_pickF (v := .bool ((!r120))) (b := (r105 != r108)) rfl rfl hb110 rfl) <| rd_nil (by kernel_rfl) ?_
      exact ⟨((!r120)), _, arr (upd_step (upd_step (upd_step (upd_step rfl rfl) rfl) rfl) rfl), h⟩
   ·refine rd_pure (i := 14) (d := (some 30)) hD (by kernel_rfl) (by kernel_rfl) rfl (.by_ 13 false 29 (r95 != r97) rfl rfl rfl hb98) rfl (fun _ => q_move (v := .pointer (v_1)) rfl rfl) ?_
    obtain ⟨a123, ha123, h⟩ := h
    refine rd_pure (i := 15) (d := (some 31)) hD (by kernel_rfl) (by kernel_rfl) rfl (.by_ 13 false 29 (r95 != r97) rfl rfl rfl hb98) rfl (fun _ => q_nilCheck (a := a123) rfl (congrArg Value.pointer ha123)) <| rd_pure (i := 16) (d := (some 32)) hD (by kernel_rfl) (by kernel_rfl) rfl (.by_ 13 false 29 (r95 != r97) rfl rfl rfl hb98) rfl (fun _ => q_fieldAddr (a := a123) (off := 0) rfl Tryz.underlying101 rfl rfl ok96 (by decide) rfl) <| rd_pure (i := 19) (d := (some 35)) hD (by kernel_rfl) (by kernel_rfl) rfl (.by_ 13 false 29 (r95 != r97) rfl rfl rfl hb98) rfl (fun _ => q_move (v := .pointer (w_2)) rfl rfl) ?_
    obtain ⟨a124, ha124, h⟩ := h
    refine rd_pure (i := 20) (d := (some 36)) hD (by kernel_rfl) (by kernel_rfl) rfl (.by_ 13 false 29 (r95 != r97) rfl rfl rfl hb98) rfl (fun _ => q_nilCheck (a := a124) rfl (congrArg Value.pointer ha124)) <| rd_pure (i := 21) (d := (some 37)) hD (by kernel_rfl) (by kernel_rfl) rfl (.by_ 13 false 29 (r95 != r97) rfl rfl rfl hb98) rfl (fun _ => q_fieldAddr (a := a124) (off := 0) rfl Tryz.underlying101 rfl rfl ok96 (by decide) rfl) ?_
    obtain ⟨x125, hx125, h⟩ := h
    refine rd_read (i := 17) (d := (some 33)) (fun W => (RdAt T95 (a123.add 0) W) x125) hD (by kernel_rfl) (by kernel_rfl) rfl (.by_ 13 false 29 (r95 != r97) rfl rfl rfl hb98) rfl (fun W hr => q_load (T := T95) (u := x125) (a := (a123.add 0)) rfl ok96 rfl hr) hx125 ?_
    obtain ⟨x126, hx126, h⟩ := h
    refine rd_read (i := 22) (d := (some 38)) (fun W => (RdAt T95 (a124.add 0) W) x126) hD (by kernel_rfl) (by kernel_rfl) rfl (.by_ 13 false 29 (r95 != r97) rfl rfl rfl hb98) rfl (fun W hr => q_load (T := T95) (u := x126) (a := (a124.add 0)) rfl ok96 rfl hr) hx126 <| rd_one (i := 18) (by kernel_rfl) <| po_wp rfl (.by_ 13 false 29 (r95 != r97) rfl rfl rfl hb98) (wp_cl (d := (some 34)) rfl (q_call (k := 39) (l := [T95.enc (x125)]) rfl ent39 rfl) h ?_)
    intro r128 w127 h
    obtain ⟨hk129, h⟩ := h
    refine ⟨(hk_keep (fun _ => hk129) (hk_wait (by kernel_rfl) hk_nil)), ?_⟩
    refine rd_one (i := 23) (by kernel_rfl) <| po_wp rfl (.by_ 13 false 29 (r95 != r97) rfl rfl rfl hb98) (wp_cl (d := (some 39)) rfl (q_call (k := 39) (l := [T95.enc (x126)]) rfl ent39 rfl) h ?_)
    intro r131 w130 h
    obtain ⟨hk132, h⟩ := h
    refine ⟨(hk_wait (by kernel_rfl) (hk_keep (fun _ => hk132) hk_nil)), ?_⟩
    refine rd_pure (i := 24) (d := (some 40)) hD (by kernel_rfl) (by kernel_rfl) rfl (.by_ 13 false 29 (r95 != r97) rfl rfl rfl hb98) rfl (fun _ => q_neq (a := r128) (b := r131) rfl rfl rfl) <| rp 25 41 hD rfl rfl rfl (fun _ => q_pickF (v := .bool ((r128 != r131))) (b := (r95 != r97)) rfl rfl hb98 rfl) <| ym 26 42 (.bool ((r128 != r131))) hD rfl rfl <| ro_if (b := (r128 != r131)) h (fun hb133 h => ?_) (fun hb133 h => ?_)
    ·refine yb 27 43 hD rfl (.by_ 26 false 42 (r128 != r131) rfl rfl rfl hb133) rfl <| yb 28 44 hD rfl (.by_ 26 false 42 (r128 != r131) rfl rfl rfl hb133) rfl <| yb 29 45 hD rfl (.by_ 26 false 42 (r128 != r131) rfl rfl rfl hb133) rfl <| yb 32 48 hD rfl (.by_ 26 false 42 (r128 != r131) rfl rfl rfl hb133) rfl <| yb 33 49 hD rfl (.by_ 26 false 42 (r128 != r131) rfl rfl rfl hb133) rfl <| yb 34 50 hD rfl (.by_ 26 false 42 (r128 != r131) rfl rfl rfl hb133) rfl <| yb 30 46 hD rfl (.by_ 26 false 42 (r128 != r131) rfl rfl rfl hb133) rfl <| yb 35 51 hD rfl (.by_ 26 false 42 (r128 != r131) rfl rfl rfl hb133) rfl <| rd_one (i := 31) (by kernel_rfl) <| po_bar (d := (some 47)) rfl (.by_ 26 false 42 (r128 != r131) rfl rfl rfl hb133) rfl ⟨fun _ _ _ h => h, ?_⟩
     refine rd_one (i := 36) (by kernel_rfl) <| po_bar (d := (some 52)) rfl (.by_ 26 false 42 (r128 != r131) rfl rfl rfl hb133) rfl ⟨fun _ _ _ h => h, ?_⟩
     refine yb 37 53 hD rfl (.by_ 26 false 42 (r128 != r131) rfl rfl rfl hb133) rfl <| rp 38 54 hD rfl rfl rfl (fun _ => q_pickT (v := .bool (true)) (b := (r128 != r131)) rfl rfl hb133 rfl) <| ym 39 55 (.bool (true)) hD rfl rfl <| ro_if (b := true) h (fun hb134 h => ?_) (fun hb134 h => ?_)
     ·refine yb 40 56 hD rfl (.by_ 39 false 55 true rfl rfl rfl hb134) rfl <| yb 42 58 hD rfl (.by_ 39 false 55 true rfl rfl rfl hb134) rfl <| rd_one (i := 41) (by kernel_rfl) <| po_bar (d := (some 57)) rfl (.by_ 39 false 55 true rfl rfl rfl hb134) rfl ⟨fun _ _ _ h => h, ?_⟩
      refine rd_one (i := 43) (by kernel_rfl) <| po_bar (d := (some 59)) rfl (.by_ 39 false 55 true rfl rfl rfl hb134) rfl ⟨fun _ _ _ h => h, ?_⟩
      refine rd_one (i := 44) (by kernel_rfl) <| po_bar (d := (some 60)) rfl (.by_ 39 false 55 true rfl rfl rfl hb134) rfl ⟨fun _ _ _ h => h, ?_⟩
      refine yb 45 61 hD rfl (.by_ 39 false 55 true rfl rfl rfl hb134) rfl <| rp 46 62 hD rfl rfl rfl (fun _ => q_pickT (v := .bool (true)) (b := true) rfl rfl hb134 rfl) <| rd_nil (by kernel_rfl) ?_
      exact ⟨(true), _, arr (upd_step (upd_step (upd_step (upd_step rfl rfl) rfl) rfl) rfl), h⟩
     ·refine rd_pure (i := 40) (d := (some 56)) hD (by kernel_rfl) (by kernel_rfl) rfl (.by_ 39 false 55 true rfl rfl rfl hb134) rfl (fun _ => q_move (v := .pointer (v_1)) rfl rfl) <| rd_pure (i := 42) (d := (some 58)) hD (by kernel_rfl) (by kernel_rfl) rfl (.by_ 39 false 55 true rfl rfl rfl hb134) rfl (fun _ => q_move (v := .pointer (w_2)) rfl rfl) <| rd_one (i := 41) (by kernel_rfl) <| po_wp rfl (.by_ 39 false 55 true rfl rfl rfl hb134) (wp_cl (d := (some 57)) rfl (q_call (k := 42) (l := [.pointer (v_1)]) rfl ent42 rfl) h ?_)
      intro r136 w135 h
      obtain ⟨hk137, h⟩ := h
      obtain ⟨hk138, h⟩ := h
      refine ⟨(hk_keep (fun _ => hk138) (hk_keep (fun _ => hk137) hk_nil)), ?_⟩
      refine rd_one (i := 43) (by kernel_rfl) <| po_wp rfl (.by_ 39 false 55 true rfl rfl rfl hb134) (wp_cl (d := (some 59)) rfl (q_call (k := 42) (l := [.pointer (w_2)]) rfl ent42 rfl) h ?_)
      intro r140 w139 h
      obtain ⟨hk141, h⟩ := h
      obtain ⟨hk142, h⟩ := h
      refine ⟨(hk_keep (fun _ => hk142) (hk_keep (fun _ => hk141) hk_nil)), ?_⟩
      refine rd_one (i := 44) (by kernel_rfl) <| po_wp rfl (.by_ 39 false 55 true rfl rfl rfl hb134) (wp_cl (d := (some 60)) rfl (q_call (k := 41) (l := [tSlc.enc (r136), tSlc.enc (r140)]) rfl ent41 rfl) h ?_)
      intro r144 w143 h
      obtain ⟨hk145, h⟩ := h
      obtain ⟨hk146, h⟩ := h
      refine ⟨(hk_keep (fun _ => hk146) (hk_keep (fun _ => hk145) hk_nil)), ?_⟩
      refine rd_pure (i := 45) (d := (some 61)) hD (by kernel_rfl) (by kernel_rfl) rfl (.by_ 39 false 55 true rfl rfl rfl hb134) rfl (fun _ => q_not (b := r144) rfl rfl) <| rp 46 62 hD rfl rfl rfl (fun _ => q_pickF (v := .bool ((!r144))) (b := true) rfl rfl hb134 rfl) <| rd_nil (by kernel_rfl) ?_
      exact ⟨((!r144)), _, arr (upd_step (upd_step (upd_step (upd_step rfl rfl) rfl) rfl) rfl), h⟩
    ·refine rd_pure (i := 27) (d := (some 43)) hD (by kernel_rfl) (by kernel_rfl) rfl (.by_ 26 false 42 (r128 != r131) rfl rfl rfl hb133) rfl (fun _ => q_move (v := .pointer (v_1)) rfl rfl) <| rd_pure (i := 28) (d := (some 44)) hD (by kernel_rfl) (by kernel_rfl) rfl (.by_ 26 false 42 (r128 != r131) rfl rfl rfl hb133) rfl (fun _ => q_nilCheck (a := a123) rfl (congrArg Value.pointer ha123)) <| rd_pure (i := 29) (d := (some 45)) hD (by kernel_rfl) (by kernel_rfl) rfl (.by_ 26 false 42 (r128 != r131) rfl rfl rfl hb133) rfl (fun _ => q_fieldAddr (a := a123) (off := 0) rfl Tryz.underlying101 rfl rfl ok96 (by decide) rfl) <| rd_pure (i := 32) (d := (some 48)) hD (by kernel_rfl) (by kernel_rfl) rfl (.by_ 26 false 42 (r128 != r131) rfl rfl rfl hb133) rfl (fun _ => q_move (v := .pointer (w_2)) rfl rfl) <| rd_pure (i := 33) (d := (some 49)) hD (by kernel_rfl) (by kernel_rfl) rfl (.by_ 26 false 42 (r128 != r131) rfl rfl rfl hb133) rfl (fun _ => q_nilCheck (a := a124) rfl (congrArg Value.pointer ha124)) <| rd_pure (i := 34) (d := (some 50)) hD (by kernel_rfl) (by kernel_rfl) rfl (.by_ 26 false 42 (r128 != r131) rfl rfl rfl hb133) rfl (fun _ => q_fieldAddr (a := a124) (off := 0) rfl Tryz.underlying101 rfl rfl ok96 (by decide) rfl) ?_
     obtain ⟨x147, hx147, h⟩ := h
     refine rd_read (i := 30) (d := (some 46)) (fun W => (RdAt T95 (a123.add 0) W) x147) hD (by kernel_rfl) (by kernel_rfl) rfl (.by_ 26 false 42 (r128 != r131) rfl rfl rfl hb133) rfl (fun W hr => q_load (T := T95) (u := x147) (a := (a123.add 0)) rfl ok96 rfl hr) hx147 ?_
     obtain ⟨x148, hx148, h⟩ := h
     refine rd_read (i := 35) (d := (some 51)) (fun W => (RdAt T95 (a124.add 0) W) x148) hD (by kernel_rfl) (by kernel_rfl) rfl (.by_ 26 false 42 (r128 != r131) rfl rfl rfl hb133) rfl (fun W hr => q_load (T := T95) (u := x148) (a := (a124.add 0)) rfl ok96 rfl hr) hx148 <| rd_one (i := 31) (by kernel_rfl) <| po_wp rfl (.by_ 26 false 42 (r128 != r131) rfl rfl rfl hb133) (wp_cl (d := (some 47)) rfl (q_call (k := 40) (l := [T95.enc (x147)]) rfl ent40 rfl) h ?_)
     intro r150 w149 h
     obtain ⟨hk151, h⟩ := h
     obtain ⟨hk152, h⟩ := h
     obtain ⟨hk153, h⟩ := h
     refine ⟨(hk_keep (fun _ => hk153) (hk_wait (by kernel_rfl) (hk_keep (fun _ => hk152) (hk_keep (fun _ => hk151) hk_nil)))), ?_⟩
     refine rd_one (i := 36) (by kernel_rfl) <| po_wp rfl (.by_ 26 false 42 (r128 != r131) rfl rfl rfl hb133) (wp_cl (d := (some 52)) rfl (q_call (k := 40) (l := [T95.enc (x148)]) rfl ent40 rfl) h ?_)
     intro r155 w154 h
     obtain ⟨hk156, h⟩ := h
     obtain ⟨hk157, h⟩ := h
     obtain ⟨hk158, h⟩ := h
     refine ⟨(hk_wait (by kernel_rfl) (hk_keep (fun _ => hk158) (hk_keep (fun _ => hk157) (hk_keep (fun _ => hk156) hk_nil)))), ?_⟩
     refine rd_pure (i := 37) (d := (some 53)) hD (by kernel_rfl) (by kernel_rfl) rfl (.by_ 26 false 42 (r128 != r131) rfl rfl rfl hb133) rfl (fun _ => q_neq (a := r150) (b := r155) rfl rfl rfl) <| rp 38 54 hD rfl rfl rfl (fun _ => q_pickF (v := .bool ((r150 != r155))) (b := (r128 != r131)) rfl rfl hb133 rfl) <| ym 39 55 (.bool ((r150 != r155))) hD rfl rfl <| ro_if (b := (r150 != r155)) h (fun hb159 h => ?_) (fun hb159 h => ?_)
     ·refine yb 40 56 hD rfl (.by_ 39 false 55 (r150 != r155) rfl rfl rfl hb159) rfl <| yb 42 58 hD rfl (.by_ 39 false 55 (r150 != r155) rfl rfl rfl hb159) rfl <| rd_one (i := 41) (by kernel_rfl) <| po_bar (d := (some 57)) rfl (.by_ 39 false 55 (r150 != r155) rfl rfl rfl hb159) rfl ⟨fun _ _ _ h => h, ?_⟩
      refine rd_one (i := 43) (by kernel_rfl) <| po_bar (d := (some 59)) rfl (.by_ 39 false 55 (r150 != r155) rfl rfl rfl hb159) rfl ⟨fun _ _ _ h => h, ?_⟩
      refine rd_one (i := 44) (by kernel_rfl) <| po_bar (d := (some 60)) rfl (.by_ 39 false 55 (r150 != r155) rfl rfl rfl hb159) rfl ⟨fun _ _ _ h => h, ?_⟩
      refine yb 45 61 hD rfl (.by_ 39 false 55 (r150 != r155) rfl rfl rfl hb159) rfl <| rp 46 62 hD rfl rfl rfl (fun _ => q_pickT (v := .bool (true)) (b := (r150 != r155)) rfl rfl hb159 rfl) <| rd_nil (by kernel_rfl) ?_
      exact ⟨(true), _, arr (upd_step (upd_step (upd_step (upd_step rfl rfl) rfl) rfl) rfl), h⟩
     ·refine rd_pure (i := 40) (d := (some 56)) hD (by kernel_rfl) (by kernel_rfl) rfl (.by_ 39 false 55 (r150 != r155) rfl rfl rfl hb159) rfl (fun _ => q_move (v := .pointer (v_1)) rfl rfl) <| rd_pure (i := 42) (d := (some 58)) hD (by kernel_rfl) (by kernel_rfl) rfl (.by_ 39 false 55 (r150 != r155) rfl rfl rfl hb159) rfl (fun _ => q_move (v := .pointer (w_2)) rfl rfl) <| rd_one (i := 41) (by kernel_rfl) <| po_wp rfl (.by_ 39 false 55 (r150 != r155) rfl rfl rfl hb159) (wp_cl (d := (some 57)) rfl (q_call (k := 42) (l := [.pointer (v_1)]) rfl ent42 rfl) h ?_)
      intro r161 w160 h
      obtain ⟨hk162, h⟩ := h
      obtain ⟨hk163, h⟩ := h
      obtain ⟨hk164, h⟩ := h
      obtain ⟨hk165, h⟩ := h
      refine ⟨(hk_keep (fun _ => hk165) (hk_keep (fun _ => hk164) (hk_keep (fun _ => hk163) (hk_keep (fun _ => hk162) hk_nil)))), ?_⟩
      refine rd_one (i := 43) (by kernel_rfl) <| po_wp rfl (.by_ 39 false 55 (r150 != r155) rfl rfl rfl hb159) (wp_cl (d := (some 59)) rfl (q_call (k := 42) (l := [.pointer (w_2)]) rfl ent42 rfl) h ?_)
      intro r167 w166 h
      obtain ⟨hk168, h⟩ := h
      obtain ⟨hk169, h⟩ := h
      obtain ⟨hk170, h⟩ := h
      obtain ⟨hk171, h⟩ := h
      refine ⟨(hk_keep (fun _ => hk171) (hk_keep (fun _ => hk170) (hk_keep (fun _ => hk169) (hk_keep (fun _ => hk168) hk_nil)))), ?_⟩
      refine rd_one (i := 44) (by kernel_rfl) <| po_wp rfl (.by_ 39 false 55 (r150 != r155) rfl rfl rfl hb159) (wp_cl (d := (some 60)) rfl (q_call (k := 41) (l := [tSlc.enc (r161), tSlc.enc (r167)]) rfl ent41 rfl) h ?_)
      intro r173 w172 h
      obtain ⟨hk174, h⟩ := h
      obtain ⟨hk175, h⟩ := h
      obtain ⟨hk176, h⟩ := h
      obtain ⟨hk177, h⟩ := h
      refine ⟨(hk_keep (fun _ => hk177) (hk_keep (fun _ => hk176) (hk_keep (fun _ => hk175) (hk_keep (fun _ => hk174) hk_nil)))), ?_⟩
      refine rd_pure (i := 45) (d := (some 61)) hD (by kernel_rfl) (by kernel_rfl) rfl (.by_ 39 false 55 (r150 != r155) rfl rfl rfl hb159) rfl (fun _ => q_not (b := r173) rfl rfl) <| rp 46 62 hD rfl rfl rfl (fun _ => q_pickF (v := .bool ((!r173))) (b := (r150 != r155)) rfl rfl hb159 rfl) <| rd_nil (by kernel_rfl) ?_
      exact ⟨((!r173)), _, arr (upd_step (upd_step (upd_step (upd_step rfl rfl) rfl) rfl) rfl), h⟩
end Go.Proofs.YtehclfjjjiiieaaGreat.Cf
namespace Go.Proofs.YtehclfjjjiiieaaGreat.Cf
open Go
set_option maxRecDepth 100000
set_option maxHeartbeats 1000000
set_option linter.unusedVariables false
set_option linter.unusedSimpArgs false
def F19 (s_1 : (Option Addr)) (w : World) (R : (Option Addr) → World → Prop) : Prop :=
 ex (NC s_1) fun a2 =>
 ex (RdAt tPtr (a2.add 1) w) fun x3 =>
 R x3 w
theorem F19_ok {s_1 : (Option Addr)} {w : World} {R : (Option Addr) → World → Prop} (h : F19 s_1 w R) : cl Tryz.prog 19 [.pointer (s_1)] tPtr w R := by
 unfold F19 at h
 refine calls_start 7 Tryz.func19 rfl rfl (Nat.le_of_ble_eq_true rfl) <| wp_seq <| wp_text [0] rfl <| za 2 (.pointer ((none : Option Addr))) rfl rfl <| ro_nil <| wp_seq <| wp_text [0, 1, 2, 3, 4] rfl <| zm 3 (.pointer (s_1)) rfl rfl ?_
 obtain ⟨a2, ha2, h⟩ := h
 refine zn 4 ha2 rfl rfl <| zf 5 a2 1 Tryz.underlying46 ok44 rfl rfl rfl ?_
 obtain ⟨x3, hx3, h⟩ := h
 refine zl 6 hx3 ok44 rfl rfl <| za 2 (.pointer (x3)) rfl rfl <| ro_nil <| wp_ret ?_
 exact zr1 h rfl rfl
def F20_j2 (i_5 : Int) (w8 : World) (K7 : Int → World → Prop) (R : (Option Addr) → World → Prop) : Prop :=
 K7 ((IntKind.i64.wrap (i_5 + (1 : Int)))) w8
def F20_l1 (l_1 : Slc) (r4 : ((Option Addr) × Int)) (i_5 : Int) (w6 : World) (K7 : Int → World → Prop) (R : (Option Addr) → World → Prop) : Prop :=
 if (decide (i_5 < (l_1.len : Int))) = true then (
  ex (IxA l_1 6 i_5) fun a9 =>
  ex (RdAt T22 a9 w6) fun x10 =>
  nw 23 T22 Z22 w6 fun a11 w12 =>
  st T22 a11 x10 w12 fun w13 =>
  ex (RdAt (tInt .i64) (a11.add 0) w13) fun x14 =>
  if (x14 == (1 : Int)) = true then (
   ex (RdAt (tInt .i64) (a11.add 1) w13) fun x15 =>
   ex (RdAt (tInt .i64) (a11.add 3) w13) fun x16 =>
   ex (RdAt (tInt .i64) (a11.add 4) w13) fun x17 =>
   cl Tryz.prog 26 [.pointer (r4.1), .int .i64 (x15), .int .i64 (x16), .int .i64 (x17)] (tInt .i64) w13 fun r19 w18 =>
   F20_j2 i_5 w18 K7 R
  ) else (
   if (x14 == (2 : Int)) = true then (
    ex (RdAt (tInt .i64) (a11.add 1) w13) fun x20 =>
    ex (RdAt (tInt .i64) (a11.add 2) w13) fun x21 =>
    ex (RdAt (tInt .i64) (a11.add 3) w13) fun x22 =>
    ex (RdAt (tInt .i64) (a11.add 4) w13) fun x23 =>
    ex (RdAt tBool (a11.add 5) w13) fun x24 =>
    cl Tryz.prog 46 [.pointer (r4.1), .int .i64 (x20), T113.enc ((⟨x21, x22, x23, x24⟩ : S113))] (tInt .i64) w13 fun r26 w25 =>
    F20_j2 i_5 w25 K7 R
   ) else (
    if (x14 == (3 : Int)) = true then (
     ex (RdAt (tInt .i64) (a11.add 1) w13) fun x27 =>
     ex (RdAt (tInt .i64) (a11.add 2) w13) fun x28 =>
     cl Tryz.prog 47 [.pointer (r4.1), .int .i64 (x27), .int .i64 (x28)] (tInt .i64) w13 fun r30 w29 =>
     F20_j2 i_5 w29 K7 R
    ) else (
     if (x14 == (4 : Int)) = true then (
      ex (RdAt (tInt .i64) (a11.add 2) w13) fun x31 =>
      cl Tryz.prog 48 [.pointer (r4.1), .int .i64 (x31)] (tInt .i64) w13 fun r33 w32 =>
      F20_j2 i_5 w32 K7 R
     ) else (
      if (x14 == (5 : Int)) = true then (
       ex (RdAt (tInt .i64) (a11.add 1) w13) fun x34 =>
       cl Tryz.prog 49 [.pointer (r4.1), .int .i64 (x34)] (tInt .i64) w13 fun r36 w35 =>
       F20_j2 i_5 w35 K7 R
      ) else (
       if (x14 == (6 : Int)) = true then (
        ex (RdAt (tInt .i64) (a11.add 1) w13) fun x37 =>
        cl Tryz.prog 50 [.pointer (r4.1), .int .i64 (x37)] (tInt .i64) w13 fun r39 w38 =>
        F20_j2 i_5 w38 K7 R
       ) else (
        F20_j2 i_5 w13 K7 R
       )
      )
     )
    )
   )
  )
 ) else (
  R r4.1 w6
 )
def F20 (l_1 : Slc) (rate_2 : Nat) (w : World) (R : (Option Addr) → World → Prop) : Prop :=
 cl Tryz.prog 34 [.float .f64 (rate_2)] (tTup2 tPtr (tInt .i64)) w fun r4 w3 =>
 if ((r4.2 != (0 : Int)) || r4.1.isNone) = true then (
  R (none : Option Addr) w3
 ) else (
  lp (fun (s : Int) w K => F20_l1 l_1 r4 s w K R) ((0 : Int)) w3
 )
theorem F20_ok {l_1 : Slc} {rate_2 : Nat} {w : World} {R : (Option Addr) → World → Prop} (h : F20 l_1 rate_2 w R) : cl Tryz.prog 20 [tSlc.enc (l_1), .float .f64 (rate_2)] tPtr w R := by
 unfold F20 at h
 refine calls_start 84 Tryz.func20 rfl rfl (Nat.le_of_ble_eq_true rfl) <| wp_seq <| wp_text [0] rfl <| za 4 (.pointer ((none : Option Addr))) rfl rfl <| ro_nil <| wp_seq <| wp_text [0, 1, 2, 3, 4, 5, 6] rfl <| zm 10 (.float .f64 (rate_2)) rfl rfl <| zc ent34 rfl rfl h fun r4 w3 h => zm 9 ((tTup2 tPtr (tInt .i64)).enc (r4)) rfl rfl <| ze 12 (.pointer (r4.1)) rfl rfl rfl <| ze 13 (.int .i64 (r4.2)) rfl rfl rfl ?_
 refine za 5 (.pointer (r4.1)) rfl rfl <| za 6 (.int .i64 (r4.2)) rfl rfl <| ro_nil <| wp_seq <| wp_seq <| wp_text [0, 1, 2, 3, 4, 5] rfl <| zm 14 (.int .i64 (r4.2)) rfl rfl <| rv 15 rfl rfl rfl (q_neq (a := r4.2) (b := (0 : Int)) rfl rfl rfl) <| zm 16 (.bool ((r4.2 != (0 : Int)))) rfl rfl <| ro_gval (g := (!(r4.2 != (0 : Int)))) (d := (some 17)) rfl (.no 2 16 true (r4.2 != (0 : Int)) rfl rfl rfl rfl) rfl (fun hg => q_move (v := .pointer (r4.1)) rfl rfl) <| ro_gval (g := (!(r4.2 != (0 : Int)))) (d := (some 18)) rfl (.no 2 16 true (r4.2 != (0 : Int)) rfl rfl rfl rfl) rfl (fun hg => q_eqP0 (a := r4.1) rfl Tryz.underlying44 (gvb_yes hg) rfl) <| rv 19 rfl rfl rfl (q_pickGF (a := (r4.2 != (0 : Int))) (c := r4.1.isNone) rfl rfl rfl rfl) ?_
 refine ro_nil <| zi h rfl (fun _ h => ?_) fun _ h => ?_
 ·refine wp_seq <| wp_text [0] rfl <| za 4 (.pointer ((none : Option Addr))) rfl rfl <| ro_nil <| wp_ret ?_
  exact zr1 h rfl rfl
 ·refine wp_skip <| wp_seq <| wp_seq <| wp_text [0] rfl <| za 7 (.int .i64 ((0 : Int))) rfl rfl <| ro_nil <| wp_block <| loop_at (σ := Int) (fr := fun g (s : Int) => upd (upd (upd (g) 0 (tSlc.enc (l_1))) 5 (.pointer (r4.1))) 7 (.int .i64 (s))) (s0 := ((0 : Int))) (upd_step (upd_step (upd_step rfl rfl) rfl) rfl) h ?_
  rintro i_5 g w6 K7 h
  unfold F20_l1 at h
  refine wp_seq <| wp_seq <| wp_text [0, 1, 2, 3] rfl <| zm 20 (.int .i64 (i_5)) rfl rfl <| zm 21 (tSlc.enc (l_1)) rfl rfl <| rv 22 rfl rfl rfl (q_len (s := l_1) rfl Tryz.underlying32 rfl) <| rv 23 rfl rfl rfl (q_lss (a := i_5) (b := (l_1.len : Int)) rfl rfl rfl) <| ro_nil <| zi h rfl (fun _ h => ?_) fun _ h => ?_
  ·refine wp_skip <| seq_join (σ := Unit) (J := fun (s : Unit) w => F20_j2 i_5 w K7 R) (fr := fun g (s : Unit) => upd (upd (upd (g) 0 (tSlc.enc (l_1))) 5 (.pointer (r4.1))) 7 (.int .i64 (i_5))) ?_ ?_
   ·rintro ⟨⟩ g w8 h
    unfold F20_j2 at h
    refine wp_text [0, 1, 2] rfl <| zm 24 (.int .i64 (i_5)) rfl rfl <| rv 25 rfl rfl rfl (q_add (a := i_5) (b := (1 : Int)) rfl rfl rfl) <| za 7 (.int .i64 ((IntKind.i64.wrap (i_5 + (1 : Int))))) rfl rfl <| ro_nil ?_
    exact ⟨((IntKind.i64.wrap (i_5 + (1 : Int)))), _, arr (upd_step (upd_step (upd_step rfl rfl) rfl) rfl), h⟩
   ·refine wp_block <| wp_seq <| wp_text [0, 1, 2, 3, 4, 5] rfl <| zm 26 (tSlc.enc (l_1)) rfl rfl <| zm 27 (.int .i64 (i_5)) rfl rfl ?_
    obtain ⟨a9, ha9, h⟩ := h
    refine rv 28 rfl rfl rfl (q_indexAddr (s := l_1) (k := .i64) (i := i_5) rfl Tryz.underlying32 ok23 rfl rfl ha9) ?_
    obtain ⟨x10, hx10, h⟩ := h
    refine zl 29 hx10 ok23 rfl rfl ?_
    obtain ⟨a11, w12, ha11, hw12, h⟩ := nw_open h
    refine rv 8 rfl rfl rfl (q_alloc (u := Z22) rfl ok23 inf23 ha11 hw12) ?_
    obtain ⟨w13, hw13, hrw13, h⟩ := st_open h
    refine ro_skip (d := none) rfl (.free rfl) rfl (q_store (T := T22) (u := x10) (a := a11) rfl ok23 rfl rfl hrw13 hw13) <| ro_nil <| wp_seq <| wp_text [0, 1] rfl <| zf 30 a11 0 Tryz.underlying23 ok3 rfl rfl rfl ?_
    obtain ⟨x14, hx14, h⟩ := h
    refine zl 31 hx14 ok3 rfl rfl <| ro_nil <| wp_block <| wp_seq <| wp_text [0, 1] rfl <| rv 33 rfl rfl rfl (q_eql (a := x14) (b := (1 : Int)) rfl rfl rfl) <| za 32 (.bool ((x14 == (1 : Int)))) rfl rfl <| ro_nil <| zi h rfl (fun _ h => ?_) fun _ h => ?_
    ·refine wp_text [0, 1, 2, 3, 4, 5, 6, 7] rfl <| zm 34 (.pointer (r4.1)) rfl rfl <| zf 35 a11 1 Tryz.underlying23 ok2 rfl rfl rfl ?_
     obtain ⟨x15, hx15, h⟩ := h
     refine zl 36 hx15 ok2 rfl rfl <| zf 37 a11 3 Tryz.underlying23 ok3 rfl rfl rfl ?_
     obtain ⟨x16, hx16, h⟩ := h
     refine zl 38 hx16 ok3 rfl rfl <| zf 39 a11 4 Tryz.underlying23 ok2 rfl rfl rfl ?_
     obtain ⟨x17, hx17, h⟩ := h
     refine zl 40 hx17 ok2 rfl rfl <| zc ent26 rfl rfl h fun r19 w18 h => ro_nil ?_
     exact ⟨(), _, arr (upd_step (upd_step (upd_step rfl rfl) rfl) rfl), h⟩
    ·refine wp_seq <| wp_text [0, 1] rfl <| rv 43 rfl rfl rfl (q_eql (a := x14) (b := (2 : Int)) rfl rfl rfl) <| za 42 (.bool ((x14 == (2 : Int)))) rfl rfl <| ro_nil <| zi h rfl (fun _ h => ?_) fun _ h => ?_
     ·refine wp_text [0, 1, 2, 3, 4, 5, 6, 7, 8, 9, 10, 11, 12] rfl <| zm 44 (.pointer (r4.1)) rfl rfl <| zf 45 a11 1 Tryz.underlying23 ok2 rfl rfl rfl ?_
      obtain ⟨x20, hx20, h⟩ := h
      refine zl 46 hx20 ok2 rfl rfl <| zf 47 a11 2 Tryz.underlying23 ok3 rfl rfl rfl ?_
      obtain ⟨x21, hx21, h⟩ := h
      refine zl 48 hx21 ok3 rfl rfl <| zf 49 a11 3 Tryz.underlying23 ok3 rfl rfl rfl ?_
      obtain ⟨x22, hx22, h⟩ := h
      refine zl 50 hx22 ok3 rfl rfl <| zf 51 a11 4 Tryz.underlying23 ok2 rfl rfl rfl ?_
      obtain ⟨x23, hx23, h⟩ := h
      refine zl 52 hx23 ok2 rfl rfl <| zf 53 a11 5 Tryz.underlying23 ok4 rfl rfl rfl ?_
      obtain ⟨x24, hx24, h⟩ := h
      refine zl 54 hx24 ok4 rfl rfl <| rv 55 rfl rfl rfl (q_build114_0_1_2_3 (v0 := x21) (v1 := x22) (v2 := x23) (v3 := x24) rfl rfl rfl rfl rfl) <| zc ent46 rfl rfl h fun r26 w25 h => ro_nil ?_
      exact ⟨(), _, arr (upd_step (upd_step (upd_step rfl rfl) rfl) rfl), h⟩
     ·refine wp_seq <| wp_text [0, 1] rfl <| rv 58 rfl rfl rfl (q_eql (a := x14) (b := (3 : Int)) rfl rfl rfl) <| za 57 (.bool ((x14 == (3 : Int)))) rfl rfl <| ro_nil <| zi h rfl (fun _ h => ?_) fun _ h => ?_
      ·refine wp_text [0, 1, 2, 3, 4, 5] rfl <| zm 59 (.pointer (r4.1)) rfl rfl <| zf 60 a11 1 Tryz.underlying23 ok2 rfl rfl rfl ?_
       obtain ⟨x27, hx27, h⟩ := h
       refine zl 61 hx27 ok2 rfl rfl <| zf 62 a11 2 Tryz.underlying23 ok3 rfl rfl rfl ?_
       obtain ⟨x28, hx28, h⟩ := h
       refine zl 63 hx28 ok3 rfl rfl <| zc ent47 rfl rfl h fun r30 w29 h => ro_nil ?_
       exact ⟨(), _, arr (upd_step (upd_step (upd_step rfl rfl) rfl) rfl), h⟩
      ·refine wp_seq <| wp_text [0, 1] rfl <| rv 66 rfl rfl rfl (q_eql (a := x14) (b := (4 : Int)) rfl rfl rfl) <| za 65 (.bool ((x14 == (4 : Int)))) rfl rfl <| ro_nil <| zi h rfl (fun _ h => ?_) fun _ h => ?_
       ·refine wp_text [0, 1, 2, 3] rfl <| zm 67 (.pointer (r4.1)) rfl rfl <| zf 68 a11 2 Tryz.underlying23 ok3 rfl rfl rfl ?_
        obtain ⟨x31, hx31, h⟩ := h
        refine zl 69 hx31 ok3 rfl rfl <| zc ent48 rfl rfl h fun r33 w32 h => ro_nil ?_
        exact ⟨(), _, arr (upd_step (upd_step (upd_step rfl rfl) rfl) rfl), h⟩
       ·refine wp_seq <| wp_text [0, 1] rfl <| rv 72 rfl rfl rfl (q_eql (a := x14) (b := (5 : Int)) rfl rfl rfl) <| za 71 (.bool ((x14 == (5 : Int)))) rfl rfl <| ro_nil <| zi h rfl (fun _ h => ?_) fun _ h => ?_
        ·refine wp_text [0, 1, 2, 3] rfl <| zm 73 (.pointer (r4.1)) rfl rfl <| zf 74 a11 1 Tryz.underlying23 ok2 rfl rfl rfl ?_
         obtain ⟨x34, hx34, h⟩ := h
         refine zl 75 hx34 ok2 rfl rfl <| zc ent49 rfl rfl h fun r36 w35 h => ro_nil ?_
         exact ⟨(), _, arr (upd_step (upd_step (upd_step rfl rfl) rfl) rfl), h⟩
        ·refine wp_seq <| wp_text [0, 1] rfl <| rv 78 rfl rfl rfl (q_eql (a := x14) (b := (6 : Int)) rfl rfl rfl) <| za 77 (.bool ((x14 == (6 : Int)))) rfl rfl <| ro_nil <| zi h rfl (fun _ h => ?_) fun _ h => ?_
         ·refine wp_text [0, 1, 2, 3] rfl <| zm 79 (.pointer (r4.1)) rfl rfl <| zf 80 a11 1 Tryz.underlying23 ok2 rfl rfl rfl ?_
          obtain ⟨x37, hx37, h⟩ := h
          refine zl 81 hx37 ok2 rfl rfl <| zc ent50 rfl rfl h fun r39 w38 h => ro_nil ?_
          exact ⟨(), _, arr (upd_step (upd_step (upd_step rfl rfl) rfl) rfl), h⟩
         ·refine wp_skip ?_
          exact ⟨(), _, arr (upd_step (upd_step (upd_step rfl rfl) rfl) rfl), h⟩
  ·refine wp_exit <| wp_seq <| wp_text [0, 1] rfl <| zm 83 (.pointer (r4.1)) rfl rfl <| za 4 (.pointer (r4.1)) rfl rfl <| ro_nil <| wp_ret ?_
   exact zr1 h rfl rfl
def F21 (w_1 : (Option Addr)) (w : World) (R : Int → World → Prop) : Prop :=
 ex (NC w_1) fun a2 =>
 ex (RdAt (tInt .i64) ((a2.add 0).add 0) w) fun x3 =>
 R x3 w
theorem F21_ok {w_1 : (Option Addr)} {w : World} {R : Int → World → Prop} (h : F21 w_1 w R) : cl Tryz.prog 21 [.pointer (w_1)] (tInt .i64) w R := by
 unfold F21 at h
 refine calls_start 8 Tryz.func21 rfl rfl (Nat.le_of_ble_eq_true rfl) <| wp_seq <| wp_text [0] rfl <| za 2 (.int .i64 ((0 : Int))) rfl rfl <| ro_nil <| wp_seq <| wp_text [0, 1, 2, 3, 4, 5] rfl <| zm 3 (.pointer (w_1)) rfl rfl ?_
 obtain ⟨a2, ha2, h⟩ := h
 refine zn 4 ha2 rfl rfl <| zf 5 a2 0 Tryz.underlying88 ok86 rfl rfl rfl <| zf 6 (a2.add 0) 0 Tryz.underlying86 ok3 rfl rfl rfl ?_
 obtain ⟨x3, hx3, h⟩ := h
 refine zl 7 hx3 ok3 rfl rfl <| za 2 (.int .i64 (x3)) rfl rfl <| ro_nil <| wp_ret ?_
 exact zr1 h rfl rfl
def F23 (w_1 : (Option Addr)) (w : World) (R : Int → World → Prop) : Prop :=
 ex (NC w_1) fun a2 =>
 ex (RdAt (tInt .i64) ((a2.add 0).add 1) w) fun x3 =>
 R x3 w
theorem F23_ok {w_1 : (Option Addr)} {w : World} {R : Int → World → Prop} (h : F23 w_1 w R) : cl Tryz.prog 23 [.pointer (w_1)] (tInt .i64) w R := by
 unfold F23 at h
 refine calls_start 8 Tryz.func23 rfl rfl (Nat.le_of_ble_eq_true rfl) <| wp_seq <| wp_text [0] rfl <| za 2 (.int .i64 ((0 : Int))) rfl rfl <| ro_nil <| wp_seq <| wp_text [0, 1, 2, 3, 4, 5] rfl <| zm 3 (.pointer (w_1)) rfl rfl ?_
 obtain ⟨a2, ha2, h⟩ := h
 refine zn 4 ha2 rfl rfl <| zf 5 a2 0 Tryz.underlying88 ok86 rfl rfl rfl <| zf 6 (a2.add 0) 1 Tryz.underlying86 ok3 rfl rfl rfl ?_
 obtain ⟨x3, hx3, h⟩ := h
 refine zl 7 hx3 ok3 rfl rfl <| za 2 (.int .i64 (x3)) rfl rfl <| ro_nil <| wp_ret ?_
 exact zr1 h rfl rfl
def F25 (v_1 : (Option Addr)) (w : World) (R : Int → World → Prop) : Prop :=
 ex (NC v_1) fun a2 =>
 ex (RdAt (tInt .i64) (a2.add 2) w) fun x3 =>
 R x3 w
theorem F25_ok {v_1 : (Option Addr)} {w : World} {R : Int → World → Prop} (h : F25 v_1 w R) : cl Tryz.prog 25 [.pointer (v_1)] (tInt .i64) w R := by
 unfold F25 at h
 refine calls_start 7 Tryz.func25 rfl rfl (Nat.le_of_ble_eq_true rfl) <| wp_seq <| wp_text [0] rfl <| za 2 (.int .i64 ((0 : Int))) rfl rfl <| ro_nil <| wp_seq <| wp_text [0, 1, 2, 3, 4] rfl <| zm 3 (.pointer (v_1)) rfl rfl ?_
 obtain ⟨a2, ha2, h⟩ := h
 refine zn 4 ha2 rfl rfl <| zf 5 a2 2 Tryz.underlying101 ok2 rfl rfl rfl ?_
 obtain ⟨x3, hx3, h⟩ := h
 refine zl 6 hx3 ok2 rfl rfl <| za 2 (.int .i64 (x3)) rfl rfl <| ro_nil <| wp_ret ?_
 exact zr1 h rfl rfl
def F26 (v_1 : (Option Addr)) (t_2 : Int) (account_3 : Int) (n_4 : Int) (w : World) (R : Int → World → Prop) : Prop :=
 cl Tryz.prog 51 [.pointer (v_1), .int .i64 (t_2)] (tInt .i64) w fun r6 w5 =>
 if (r6 != (0 : Int)) = true then (
  R r6 w5
 ) else (
  ex (NC v_1) fun a7 =>
  ex (RdAt tPtr ((a7.add 0).add 0) w5) fun x8 =>
  cl Tryz.prog 52 [.pointer (x8), .int .i64 (account_3)] (tTup2 T117 tBool) w5 fun r10 w9 =>
  nw 118 T117 Z117 w9 fun a11 w12 =>
  st T117 a11 r10.1 w12 fun w13 =>
  cl Tryz.prog 53 [.int .i64 (account_3)] tBool w13 fun r15 w14 =>
  if (!r15) = true then (
   R (153 : Int) w14
  ) else (
   if r10.2 = true then (
    R (154 : Int) w14
   ) else (
    cl Tryz.prog 54 [.int .i64 (n_4)] (tInt .i64) w14 fun r17 w16 =>
    if (r17 != (0 : Int)) = true then (
     R (155 : Int) w16
    ) else (
     ex (RdAt tPtr ((a7.add 0).add 0) w16) fun x18 =>
     nwS 123 T122 [(⟨account_3, n_4⟩ : S122)] w16 fun a19 w20 =>
     cl Tryz.prog 55 [.pointer (x18), .int .i64 (t_2), tSlc.enc ((⟨some a19, 1, 1⟩ : Slc))] (tInt .i64) w20 fun r22 w21 =>
     cl Tryz.prog 56 [.pointer (v_1), .int .i64 (t_2)] tUnit w21 fun r24 w23 =>
     R (0 : Int) w23
    )
   )
  )
 )
theorem F26_ok {v_1 : (Option Addr)} {t_2 : Int} {account_3 : Int} {n_4 : Int} {w : World} {R : Int → World → Prop} (h : F26 v_1 t_2 account_3 n_4 w R) : cl Tryz.prog 26 [.pointer (v_1), .int .i64 (t_2), .int .i64 (account_3), .int .i64 (n_4)] (tInt .i64) w R := by
 unfold F26 at h
 refine calls_start 52 Tryz.func26 rfl rfl (Nat.le_of_ble_eq_true rfl) <| wp_seq <| wp_text [0] rfl <| za 8 (.int .i64 ((0 : Int))) rfl rfl <| ro_nil <| wp_seq <| wp_seq <| wp_text [0, 1, 2, 3] rfl <| zm 12 (.pointer (v_1)) rfl rfl <| zm 13 (.int .i64 (t_2)) rfl rfl <| zc ent51 rfl rfl h fun r6 w5 h => za 9 (.int .i64 (r6)) rfl rfl ?_
 refine ro_nil <| wp_seq <| wp_text [0, 1] rfl <| zm 15 (.int .i64 (r6)) rfl rfl <| rv 16 rfl rfl rfl (q_neq (a := r6) (b := (0 : Int)) rfl rfl rfl) <| ro_nil <| zi h rfl (fun _ h => ?_) fun _ h => ?_
 ·refine wp_seq <| wp_text [0, 1] rfl <| zm 17 (.int .i64 (r6)) rfl rfl <| za 8 (.int .i64 (r6)) rfl rfl <| ro_nil <| wp_ret ?_
  exact zr1 h rfl rfl
 ·refine wp_skip <| wp_seq <| wp_text [0, 1, 2, 3, 4, 5, 6, 7, 8, 9, 10, 11, 12] rfl <| zm 19 (.pointer (v_1)) rfl rfl ?_
  obtain ⟨a7, ha7, h⟩ := h
  refine zn 20 ha7 rfl rfl <| zf 21 a7 0 Tryz.underlying101 ok96 rfl rfl rfl <| zf 22 (a7.add 0) 0 Tryz.underlying96 ok94 rfl rfl rfl ?_
  obtain ⟨x8, hx8, h⟩ := h
  refine zl 23 hx8 ok94 rfl rfl <| zm 24 (.int .i64 (account_3)) rfl rfl <| zc ent52 rfl rfl h fun r10 w9 h => zm 18 ((tTup2 T117 tBool).enc (r10)) rfl rfl <| ze 26 (T117.enc (r10.1)) rfl rfl rfl <| ze 27 (.bool (r10.2)) rfl rfl rfl ?_
  obtain ⟨a11, w12, ha11, hw12, h⟩ := nw_open h
  refine rv 10 rfl rfl rfl (q_alloc (u := Z117) rfl ok118 inf118 ha11 hw12) ?_
  obtain ⟨w13, hw13, hrw13, h⟩ := st_open h
  refine ro_skip (d := none) rfl (.free rfl) rfl (q_store (T := T117) (u := r10.1) (a := a11) rfl ok118 rfl rfl hrw13 hw13) <| za 11 (.bool (r10.2)) rfl rfl <| ro_nil <| wp_seq <| wp_block <| wp_seq <| wp_text [0, 1, 2, 3] rfl <| zm 29 (.int .i64 (account_3)) rfl rfl <| zc ent53 rfl rfl h fun r15 w14 h => rv 31 rfl rfl rfl (q_not (b := r15) rfl rfl) <| za 28 (.bool ((!r15))) rfl rfl <| ro_nil ?_
  refine zi h rfl (fun _ h => ?_) fun _ h => ?_
  ·refine wp_seq <| wp_text [0] rfl <| za 8 (.int .i64 ((153 : Int))) rfl rfl <| ro_nil <| wp_ret ?_
   exact zr1 h rfl rfl
  ·refine wp_seq <| wp_text [0, 1] rfl <| zm 33 (.bool (r10.2)) rfl rfl <| za 32 (.bool (r10.2)) rfl rfl <| ro_nil <| zi h rfl (fun _ h => ?_) fun _ h => ?_
   ·refine wp_seq <| wp_text [0] rfl <| za 8 (.int .i64 ((154 : Int))) rfl rfl <| ro_nil <| wp_ret ?_
    exact zr1 h rfl rfl
   ·refine wp_seq <| wp_text [0, 1, 2, 3] rfl <| zm 35 (.int .i64 (n_4)) rfl rfl <| zc ent54 rfl rfl h fun r17 w16 h => rv 37 rfl rfl rfl (q_neq (a := r17) (b := (0 : Int)) rfl rfl rfl) <| za 34 (.bool ((r17 != (0 : Int)))) rfl rfl <| ro_nil <| zi h rfl (fun _ h => ?_) fun _ h => ?_
    ·refine wp_seq <| wp_text [0] rfl <| za 8 (.int .i64 ((155 : Int))) rfl rfl <| ro_nil <| wp_ret ?_
     exact zr1 h rfl rfl
    ·refine wp_skip <| wp_seq <| wp_text [0, 1, 2, 3, 4, 5, 6, 7, 8, 9, 10] rfl <| zm 38 (.pointer (v_1)) rfl rfl <| zn 39 ha7 rfl rfl <| zf 40 a7 0 Tryz.underlying101 ok96 rfl rfl rfl <| zf 41 (a7.add 0) 0 Tryz.underlying96 ok94 rfl rfl rfl ?_
     obtain ⟨x18, hx18, h⟩ := h
     refine zl 42 hx18 ok94 rfl rfl <| zm 43 (.int .i64 (t_2)) rfl rfl <| zm 44 (.int .i64 (account_3)) rfl rfl <| zm 45 (.int .i64 (n_4)) rfl rfl <| rv 46 rfl rfl rfl (q_build123_0_1 (v0 := account_3) (v1 := n_4) rfl rfl rfl) ?_
     obtain ⟨a19, w20, ha19, hw20, h⟩ := nwS_open h
     refine rv 47 rfl rfl rfl (q_rowOf (T := T122) (xs := [(⟨account_3, n_4⟩ : S122)]) rfl Tryz.underlying108 ok123 inf123 rfl (by decide) (by decide) rfl ha19 hw20) <| zc ent55 rfl rfl h fun r22 w21 h => ro_nil <| wp_seq <| wp_text [0, 1, 2] rfl <| zm 49 (.pointer (v_1)) rfl rfl <| zm 50 (.int .i64 (t_2)) rfl rfl <| zc ent56 rfl rfl h fun r24 w23 h => ro_nil <| wp_seq <| wp_text [0] rfl <| za 8 (.int .i64 ((0 : Int))) rfl rfl ?_
     refine ro_nil <| wp_ret ?_
     exact zr1 h rfl rfl
def F27_l1 (l_1 : Slc) (b_2 : Slc) (t_3 : Int) (w4 : World) (K5 : Slc × Int → World → Prop) (R : (Slc × Int) → World → Prop) : Prop :=
 if (decide (t_3 < (l_1.len : Int))) = true then (
  ex (IxA l_1 5 t_3) fun a6 =>
  ex (RdAt T63 a6 w4) fun x7 =>
  nw 64 T63 Z63 w4 fun a8 w9 =>
  st T63 a8 x7 w9 fun w10 =>
  ex (RdAt T63 a8 w10) fun x11 =>
  cl Tryz.prog 57 [T63.enc (x11)] (tInt .i64) w10 fun r13 w12 =>
  if (r13 != (0 : Int)) = true then (
   R ((⟨none, 0, 0⟩ : Slc), r13) w12
  ) else (
   ex (RdAt T63 a8 w12) fun x14 =>
   cl Tryz.prog 58 [tSlc.enc (b_2), T63.enc (x14)] tSlc w12 fun r16 w15 =>
   K5 (r16, (IntKind.i64.wrap (t_3 + (1 : Int)))) w15
  )
 ) else (
  R (b_2, (0 : Int)) w4
 )
def F27 (l_1 : Slc) (w : World) (R : (Slc × Int) → World → Prop) : Prop :=
 if (decide ((l_1.len : Int) > (1000 : Int))) = true then (
  R ((⟨none, 0, 0⟩ : Slc), (20 : Int)) w
 ) else (
  lp (fun (s : Slc × Int) w K => F27_l1 l_1 s.1 s.2 w K R) ((⟨none, 0, 0⟩ : Slc), (0 : Int)) w
 )
theorem F27_ok {l_1 : Slc} {w : World} {R : (Slc × Int) → World → Prop} (h : F27 l_1 w R) : cl Tryz.prog 27 [tSlc.enc (l_1)] (tTup2 tSlc (tInt .i64)) w R := by
 unfold F27 at h
 refine calls_start 27 Tryz.func27 rfl rfl (Nat.le_of_ble_eq_true rfl) <| wp_seq <| wp_text [0, 1] rfl <| za 2 (tSlc.enc ((⟨none, 0, 0⟩ : Slc))) rfl rfl <| za 3 (.int .i64 ((0 : Int))) rfl rfl <| ro_nil <| wp_seq <| wp_seq <| wp_text [0, 1, 2] rfl <| zm 8 (tSlc.enc (l_1)) rfl rfl <| rv 9 rfl rfl rfl (q_len (s := l_1) rfl Tryz.underlying65 rfl) <| rv 10 rfl rfl rfl (q_gtr (a := (l_1.len : Int)) (b := (1000 : Int)) rfl rfl rfl) ?_
 refine ro_nil <| zi h rfl (fun _ h => ?_) fun _ h => ?_
 ·refine wp_seq <| wp_text [0, 1] rfl <| za 2 (tSlc.enc ((⟨none, 0, 0⟩ : Slc))) rfl rfl <| za 3 (.int .i64 ((20 : Int))) rfl rfl <| ro_nil <| wp_ret ?_
  exact zr2 h rfl rfl
 ·refine wp_skip <| wp_seq <| wp_text [0] rfl <| za 4 (tSlc.enc ((⟨none, 0, 0⟩ : Slc))) rfl rfl <| ro_nil <| wp_seq <| wp_seq <| wp_text [0, 1, 2] rfl <| zm 11 (tSlc.enc (l_1)) rfl rfl <| rv 12 rfl rfl rfl (q_len (s := l_1) rfl Tryz.underlying65 rfl) <| zm 13 (.int .i64 ((0 : Int))) rfl rfl <| ro_nil ?_
  refine wp_block <| loop_at (σ := Slc × Int) (fr := fun g (s : Slc × Int) => upd (upd (upd (upd (g) 11 (tSlc.enc (l_1))) 12 (.int .i64 ((l_1.len : Int)))) 4 (tSlc.enc (s.1))) 13 (.int .i64 (s.2))) (s0 := ((⟨none, 0, 0⟩ : Slc), (0 : Int))) (upd_step (upd_step (upd_step (upd_step rfl rfl) rfl) rfl) rfl) h ?_
  rintro ⟨b_2, t_3⟩ g w4 K5 h
  unfold F27_l1 at h
  refine wp_seq <| wp_text [0] rfl <| rv 14 rfl rfl rfl (q_lss (a := t_3) (b := (l_1.len : Int)) rfl rfl rfl) <| ro_nil <| wp_seq <| zi h rfl (fun _ h => ?_) fun _ h => ?_
  ·refine wp_skip <| wp_seq <| wp_block <| wp_seq <| wp_text [0, 1, 2, 3] rfl ?_
   obtain ⟨a6, ha6, h⟩ := h
   refine rv 15 rfl rfl rfl (q_indexAddr (s := l_1) (k := .i64) (i := t_3) rfl Tryz.underlying65 ok64 rfl rfl ha6) ?_
   obtain ⟨x7, hx7, h⟩ := h
   refine zl 16 hx7 ok64 rfl rfl ?_
   obtain ⟨a8, w9, ha8, hw9, h⟩ := nw_open h
   refine rv 6 rfl rfl rfl (q_alloc (u := Z63) rfl ok64 inf64 ha8 hw9) ?_
   obtain ⟨w10, hw10, hrw10, h⟩ := st_open h
   refine ro_skip (d := none) rfl (.free rfl) rfl (q_store (T := T63) (u := x7) (a := a8) rfl ok64 rfl rfl hrw10 hw10) <| ro_nil <| wp_seq <| wp_seq <| wp_text [0, 1, 2] rfl ?_
   obtain ⟨x11, hx11, h⟩ := h
   refine zl 17 hx11 ok64 rfl rfl <| zc ent57 rfl rfl h fun r13 w12 h => za 7 (.int .i64 (r13)) rfl rfl <| ro_nil <| wp_seq <| wp_text [0, 1] rfl <| zm 19 (.int .i64 (r13)) rfl rfl <| rv 20 rfl rfl rfl (q_neq (a := r13) (b := (0 : Int)) rfl rfl rfl) <| ro_nil <| zi h rfl (fun _ h => ?_) fun _ h => ?_
   ·refine wp_seq <| wp_text [0, 1, 2] rfl <| zm 21 (.int .i64 (r13)) rfl rfl <| za 2 (tSlc.enc ((⟨none, 0, 0⟩ : Slc))) rfl rfl <| za 3 (.int .i64 (r13)) rfl rfl <| ro_nil <| wp_ret ?_
    exact zr2 h rfl rfl
   ·refine wp_skip <| wp_text [0, 1, 2, 3] rfl <| zm 22 (tSlc.enc (b_2)) rfl rfl ?_
    obtain ⟨x14, hx14, h⟩ := h
    refine zl 23 hx14 ok64 rfl rfl <| zc ent58 rfl rfl h fun r16 w15 h => za 4 (tSlc.enc (r16)) rfl rfl <| ro_nil <| wp_text [0, 1] rfl <| rv 25 rfl rfl rfl (q_add (a := t_3) (b := (1 : Int)) rfl rfl rfl) <| zm 13 (.int .i64 ((IntKind.i64.wrap (t_3 + (1 : Int))))) rfl rfl <| ro_nil ?_
    exact ⟨(r16, (IntKind.i64.wrap (t_3 + (1 : Int)))), _, arr (upd_step (upd_step (upd_step (upd_step rfl rfl) rfl) rfl) rfl), h⟩
  ·refine wp_exit <| wp_seq <| wp_text [0, 1, 2] rfl <| zm 26 (tSlc.enc (b_2)) rfl rfl <| za 2 (tSlc.enc (b_2)) rfl rfl <| za 3 (.int .i64 ((0 : Int))) rfl rfl <| ro_nil <| wp_ret ?_
   exact zr2 h rfl rfl
def F28_p (a10 : Addr) (a2 : Addr) (a4 : Addr) (a6 : Addr) (R : (Slc × Int × Int) → World → Prop) (v : Iv) (w : World) : Prop :=
 lvd Tryz.prog 59 [.pointer (some a10), .pointer (some a2), .pointer (some a4), .pointer (some a6)] (.panicking (pnc v)) w fun wD =>
 ex (RdAt tSlc a2 wD) fun y0 =>
 ex (RdAt (tInt .i64) a4 wD) fun y1 =>
 ex (RdAt (tInt .i64) a6 wD) fun y2 =>
 R (y0, y1, y2) wD
def F28_l1 (b_1 : Slc) (a2 : Addr) (a4 : Addr) (a6 : Addr) (a8 : Addr) (a10 : Addr) (w13 : World) (K14 : Unit → World → Prop) (R : (Slc × Int × Int) → World → Prop) : Prop :=
 ex (RdAt (tInt .i64) (a8.add 1) w13) fun x15 =>
 if (decide (x15 < (b_1.len : Int))) = true then (
  ex (RdAt (tInt .i64) (a8.add 1) w13) fun x16 =>
  st (tInt .i64) a10 x16 w13 fun w17 =>
  ex (RdAt tSlc a2 w17) fun x18 =>
  if ((x18.len : Int) == (1000 : Int)) = true then (
   (F28_p a10 a2 a4 a6 R) (Iv.mk 131 (T130.enc ((⟨(20 : Int)⟩ : S130)))) w17
  ) else (
   dr w17 fun w19 =>
   ex (RdAt tSlc a2 w19) fun x20 =>
   clp Tryz.prog 60 [.pointer ((some a8))] T63 w19 (F28_p a10 a2 a4 a6 R) fun r22 w21 =>
   kp ((RdAt tSlc a2 w21) x20) <|
   apl 64 T63 5 48 x20 [r22] w21 fun r27 w26 =>
   st tSlc a2 r27 w26 fun w28 =>
   K14 () w28
  )
 ) else (
  ex (RdAt tSlc a2 w13) fun x30 =>
  st tSlc a2 x30 w13 fun w31 =>
  st (tInt .i64) a4 (0 : Int) w31 fun w32 =>
  st (tInt .i64) a6 (0 : Int) w32 fun w33 =>
  lvd Tryz.prog 59 [.pointer (some a10), .pointer (some a2), .pointer (some a4), .pointer (some a6)] .returning w33 fun wD =>
  ex (RdAt tSlc a2 wD) fun y0 =>
  ex (RdAt (tInt .i64) a4 wD) fun y1 =>
  ex (RdAt (tInt .i64) a6 wD) fun y2 =>
  R (y0, y1, y2) wD
 )
def F28 (b_1 : Slc) (w : World) (R : (Slc × Int × Int) → World → Prop) : Prop :=
 nw 65 tSlc (⟨none, 0, 0⟩ : Slc) w fun a2 w3 =>
 nw 3 (tInt .i64) (0 : Int) w3 fun a4 w5 =>
 nw 34 (tInt .i64) (0 : Int) w5 fun a6 w7 =>
 nw 129 T128 (⟨b_1, (0 : Int)⟩ : S128) w7 fun a8 w9 =>
 nw 3 (tInt .i64) (0 : Int) w9 fun a10 w11 =>
 st (tInt .i64) a10 (0 : Int) w11 fun w12 =>
 lp (fun (s : Unit) w K => F28_l1 b_1 a2 a4 a6 a8 a10 w K R) () w12
theorem F28_ok {b_1 : Slc} {w : World} {R : (Slc × Int × Int) → World → Prop} (h : F28 b_1 w R) : cl Tryz.prog 28 [tSlc.enc (b_1)] (tTup3 tSlc (tInt .i64) (tInt .i64)) w R := by
 unfold F28 at h
 refine calls_startE (sl := [2, 3, 4]) 33 Tryz.func28 rfl rfl (Nat.le_of_ble_eq_true rfl) <| wp_seq <| wp_text [0, 1, 2] rfl ?_
 obtain ⟨a2, w3, ha2, hw3, h⟩ := nw_open h
 refine rv 2 rfl rfl rfl (q_alloc (u := (⟨none, 0, 0⟩ : Slc)) rfl ok65 inf65 ha2 hw3) ?_
 obtain ⟨a4, w5, ha4, hw5, h⟩ := nw_open h
 refine rv 3 rfl rfl rfl (q_alloc (u := (0 : Int)) rfl ok3 inf3 ha4 hw5) ?_
 obtain ⟨a6, w7, ha6, hw7, h⟩ := nw_open h
 refine rv 4 rfl rfl rfl (q_alloc (u := (0 : Int)) rfl ok34 inf34 ha6 hw7) <| ro_nil <| wp_seq <| wp_text [0, 1, 2, 3] rfl <| zm 7 (tSlc.enc (b_1)) rfl rfl <| rv 8 rfl rfl rfl (q_build129_0 (v0 := b_1) rfl rfl) ?_
 obtain ⟨a8, w9, ha8, hw9, h⟩ := nw_open h
 refine rv 9 rfl rfl rfl (q_box (u := (⟨b_1, (0 : Int)⟩ : S128)) rfl ok129 rfl ha8 hw9) <| za 5 (.pointer (some a8)) rfl rfl <| ro_nil <| wp_seq <| wp_text [0, 1] rfl ?_
 obtain ⟨a10, w11, ha10, hw11, h⟩ := nw_open h
 refine rv 6 rfl rfl rfl (q_alloc (u := (0 : Int)) rfl ok3 inf3 ha10 hw11) ?_
 obtain ⟨w12, hw12, hrw12, h⟩ := st_open h
 refine ro_skip (d := none) rfl (.free rfl) rfl (q_store (T := (tInt .i64)) (u := (0 : Int)) (a := a10) rfl ok3 rfl rfl hrw12 hw12) <| ro_nil <| wp_seq <| wp_text [0, 1] rfl <| rv 10 rfl rfl rfl (q_makeFunc (fn := .func 59) (va := []) (vc := [.pointer (some a10), .pointer (some a2), .pointer (some a4), .pointer (some a6)]) rfl rfl rfl) <| ro_wp rfl (.free rfl) (wp_defer (k := 59) (cs := [.pointer (some a10), .pointer (some a2), .pointer (some a4), .pointer (some a6)]) (d := none) rfl rfl rfl ?_)
 refine ro_nil <| wp_seq <| wp_block <| loop_at (σ := Unit) (fr := fun g (s : Unit) => upd (upd (upd (upd (upd (upd (g) 0 (tSlc.enc (b_1))) 2 (.pointer (some a2))) 3 (.pointer (some a4))) 4 (.pointer (some a6))) 5 (.pointer ((some a8)))) 6 (.pointer (some a10))) (s0 := ()) (upd_step (upd_step (upd_step (upd_step (upd_step (upd_step rfl rfl) rfl) rfl) rfl) rfl) rfl) h ?_
 rintro ⟨⟩ g w13 K14 h
 unfold F28_l1 at h
 refine wp_seq <| wp_seq <| wp_text [0, 1, 2, 3, 4, 5, 6] rfl <| zm 11 (.pointer ((some a8))) rfl rfl <| rv 12 rfl rfl rfl (q_nilCheck (a := a8) rfl rfl) <| zf 13 a8 1 Tryz.underlying129 ok3 rfl rfl rfl ?_
 obtain ⟨x15, hx15, h⟩ := h
 refine zl 14 hx15 ok3 rfl rfl <| zm 15 (tSlc.enc (b_1)) rfl rfl <| rv 16 rfl rfl rfl (q_len (s := b_1) rfl Tryz.underlying25 rfl) <| rv 17 rfl rfl rfl (q_lss (a := x15) (b := (b_1.len : Int)) rfl rfl rfl) <| ro_nil <| zi h rfl (fun _ h => ?_) fun _ h => ?_
 ·refine wp_skip <| wp_block <| wp_seq <| wp_text [0, 1, 2, 3, 4] rfl <| zm 18 (.pointer ((some a8))) rfl rfl <| rv 19 rfl rfl rfl (q_nilCheck (a := a8) rfl rfl) <| zf 20 a8 1 Tryz.underlying129 ok3 rfl rfl rfl ?_
  obtain ⟨x16, hx16, h⟩ := h
  refine zl 21 hx16 ok3 rfl rfl ?_
  obtain ⟨w17, hw17, hrw17, h⟩ := st_open h
  refine ro_skip (d := none) rfl (.free rfl) rfl (q_store (T := (tInt .i64)) (u := x16) (a := a10) rfl ok3 rfl rfl hrw17 hw17) <| ro_nil <| wp_seq <| wp_seq <| wp_text [0, 1, 2] rfl ?_
  obtain ⟨x18, hx18, h⟩ := h
  refine zl 22 hx18 ok65 rfl rfl <| rv 23 rfl rfl rfl (q_len (s := x18) rfl Tryz.underlying65 rfl) <| rv 24 rfl rfl rfl (q_eql (a := (x18.len : Int)) (b := (1000 : Int)) rfl rfl rfl) <| ro_nil <| zi h rfl (fun _ h => ?_) fun _ h => ?_
  ·refine wp_text [0, 1, 2] rfl <| rv 25 rfl rfl rfl (q_build131_0 (v0 := (20 : Int)) rfl rfl) <| rv 26 rfl rfl rfl (q_mkI (v := T130.enc ((⟨(20 : Int)⟩ : S130))) rfl Tryz.underlying131 rfl rfl) <| ro_wp rfl (.free rfl) (wp_panic (v := (Iv.mk 131 (T130.enc ((⟨(20 : Int)⟩ : S130))))) rfl rfl ⟨_, _, rfl⟩ ?_)
   unfold F28_p at h
   refine pan_D (rs := [.cell 2 65, .cell 3 3, .cell 4 34]) rfl ent59 (lvd_mono h fun wD h => ?_)
   obtain ⟨y0, hy0, h⟩ := h
   obtain ⟨y1, hy1, h⟩ := h
   obtain ⟨y2, hy2, h⟩ := h
   exact ⟨_, (.cons (.cell (T := tSlc) (u := y0) (a := a2) ok65 rfl hy0) (.cons (.cell (T := (tInt .i64)) (u := y1) (a := a4) ok3 rfl hy1) (.cons (.cell (T := (tInt .i64)) (u := y2) (a := a6) ok34 rfl hy2) .nil))), ⟨(y0, y1, y2), rfl, h⟩⟩
  ·refine wp_skip ?_
   obtain ⟨w19, hw19, h⟩ := dr_open h
   refine wp_drawnE 6 mixed rfl (by kernel_rfl) (fun c a d v w hd h => panE_put (sl := [2, 3, 4]) (dst_ok (by kernel_rfl) hd) h) hw19 (fun hD => ?_)
   refine ym 1 28 (.pointer ((some a8))) hD rfl rfl ?_
   obtain ⟨x20, hx20, h⟩ := h
   refine yr 0 27 hx20 ok65 hD rfl rfl <| rd_one (i := 2) (by kernel_rfl) <| po_wp rfl (.free rfl) (wp_clp (d := (some 29)) rfl (q_call (k := 60) (l := [.pointer ((some a8))]) rfl ent60 rfl) h ?_ ?_)
   ·intro _ _ h
    unfold F28_p at h
    refine pan_D (rs := [.cell 2 65, .cell 3 3, .cell 4 34]) rfl ent59 (lvd_mono h fun wD h => ?_)
    obtain ⟨y0, hy0, h⟩ := h
    obtain ⟨y1, hy1, h⟩ := h
    obtain ⟨y2, hy2, h⟩ := h
    exact ⟨_, (.cons (.cell (T := tSlc) (u := y0) (a := a2) ok65 rfl hy0) (.cons (.cell (T := (tInt .i64)) (u := y1) (a := a4) ok3 rfl hy1) (.cons (.cell (T := (tInt .i64)) (u := y2) (a := a6) ok34 rfl hy2) .nil))), ⟨(y0, y1, y2), rfl, h⟩⟩
   intro r22 w21 h
   obtain ⟨hk23, h⟩ := h
   refine ⟨(hk_keep (fun _ => hk23) hk_nil), ?_⟩
   refine rd_one (i := 3) (by kernel_rfl) ?_
   obtain ⟨a24, w25, ha24, hw25, h⟩ := apl_open h
   refine po_val (d := (some 30)) rfl (.free rfl) rfl (q_rowOf (T := T63) (xs := [r22]) rfl Tryz.underlying65 ok64 inf64 rfl (by decide) (by decide) rfl ha24 hw25) ⟨(hk_keep (fun h => keep_RdAt hw25 h) hk_nil), ?_⟩
   refine rd_one (i := 4) (by kernel_rfl) <| po_wp rfl (.free rfl) (wp_append (d := (some 31)) (T := T63) rfl rfl Tryz.underlying65 ⟨_, Tryz.underlying65⟩ ok64 inf64 rfl rfl (Nat.lt_of_lt_of_le Nat.zero_lt_one (Nat.le_of_ble_eq_true rfl)) rfl rfl h ?_)
   intro r27 w26 h
   refine ⟨(hk_wait (by kernel_rfl) hk_nil), ?_⟩
   refine rd_one (i := 5) (by kernel_rfl) ?_
   obtain ⟨w28, hw28, hrw28, h⟩ := st_open h
   refine po_skip (d := none) rfl (.free rfl) rfl (q_store (T := tSlc) (u := r27) (a := a2) rfl ok65 rfl rfl hrw28 hw28) ⟨(hk_wait (by kernel_rfl) hk_nil), ?_⟩
   refine rd_nil (by kernel_rfl) ?_
   exact ⟨(), _, arr (upd_step (upd_step (upd_step (upd_step (upd_step (upd_step rfl rfl) rfl) rfl) rfl) rfl) rfl), h⟩
 ·refine wp_exit <| wp_seq <| wp_text [0, 1, 2, 3] rfl ?_
  obtain ⟨x30, hx30, h⟩ := h
  refine zl 32 hx30 ok65 rfl rfl ?_
  obtain ⟨w31, hw31, hrw31, h⟩ := st_open h
  refine ro_skip (d := none) rfl (.free rfl) rfl (q_store (T := tSlc) (u := x30) (a := a2) rfl ok65 rfl rfl hrw31 hw31) ?_
  obtain ⟨w32, hw32, hrw32, h⟩ := st_open h
  refine ro_skip (d := none) rfl (.free rfl) rfl (q_store (T := (tInt .i64)) (u := (0 : Int)) (a := a4) rfl ok3 rfl rfl hrw32 hw32) ?_
  obtain ⟨w33, hw33, hrw33, h⟩ := st_open h
  refine ro_skip (d := none) rfl (.free rfl) rfl (q_store (T := (tInt .i64)) (u := (0 : Int)) (a := a6) rfl ok34 rfl rfl hrw33 hw33) <| ro_nil <| wp_ret <| ret_D (rs := [.cell 2 65, .cell 3 3, .cell 4 34]) rfl ent59 (lvd_mono h fun wD h => ?_)
  obtain ⟨y0, hy0, h⟩ := h
  obtain ⟨y1, hy1, h⟩ := h
  obtain ⟨y2, hy2, h⟩ := h
  exact ⟨_, (.cons (.cell (T := tSlc) (u := y0) (a := a2) ok65 rfl hy0) (.cons (.cell (T := (tInt .i64)) (u := y1) (a := a4) ok3 rfl hy1) (.cons (.cell (T := (tInt .i64)) (u := y2) (a := a6) ok34 rfl hy2) .nil))), ⟨(y0, y1, y2), rfl, h⟩⟩
def F29 (k_1 : Int) (w : World) (R : Bool → World → Prop) : Prop :=
 R ((decide (k_1 ≥ (1 : Int))) && (decide (k_1 ≤ (6 : Int)))) w
theorem F29_ok {k_1 : Int} {w : World} {R : Bool → World → Prop} (h : F29 k_1 w R) : cl Tryz.prog 29 [.int .i64 (k_1)] tBool w R := by
 unfold F29 at h
 refine calls_start 9 Tryz.func29 rfl rfl (Nat.le_of_ble_eq_true rfl) <| wp_seq <| wp_text [0] rfl <| za 2 (.bool (false)) rfl rfl <| ro_nil <| wp_seq <| wp_text [0, 1, 2, 3, 4, 5, 6] rfl <| zm 3 (.int .i64 (k_1)) rfl rfl <| rv 4 rfl rfl rfl (q_geq (a := k_1) (b := (1 : Int)) rfl rfl rfl) <| zm 5 (.bool ((decide (k_1 ≥ (1 : Int))))) rfl rfl <| ro_gval (g := (decide (k_1 ≥ (1 : Int)))) (d := (some 6)) rfl (.yes 2 5 true (decide (k_1 ≥ (1 : Int))) rfl rfl rfl rfl) rfl (fun hg => q_move (v := .int .i64 (k_1)) rfl rfl) <| ro_gval (g := (decide (k_1 ≥ (1 : Int)))) (d := (some 7)) rfl (.yes 2 5 true (decide (k_1 ≥ (1 : Int))) rfl rfl rfl rfl) rfl (fun hg => q_leq (k := .i64) (a := k_1) (b := (6 : Int)) rfl (gvb_yes hg) rfl) ?_
 refine rv 8 rfl rfl rfl (q_pickGT (a := (decide (k_1 ≥ (1 : Int)))) (b := (decide (k_1 ≤ (6 : Int)))) rfl rfl rfl rfl) <| za 2 (.bool (((decide (k_1 ≥ (1 : Int))) && (decide (k_1 ≤ (6 : Int)))))) rfl rfl <| ro_nil <| wp_ret ?_
 exact zr1 h rfl rfl
end Go.Proofs.YtehclfjjjiiieaaGreat.Cf
namespace Go.Proofs.YtehclfjjjiiieaaGreat.Cf
open Go
set_option maxRecDepth 100000
set_option maxHeartbeats 1000000
set_option linter.unusedVariables false
set_option linter.unusedSimpArgs false
def F32_j1 (t_4 : Bool) (w5 : World) (R : Int → World → Prop) : Prop :=
 if t_4 = true then (
  R (43 : Int) w5
 ) else (
  R (0 : Int) w5
 )
def F32 (f_1 : Nat) (w : World) (R : Int → World → Prop) : Prop :=
 cl Tryz.prog 64 [.float .f64 (f_1)] (tInt .i64) w fun r3 w2 =>
 if (decide (r3 < (3 : Int))) = true then (
  F32_j1 true w2 R
 ) else (
  cl Tryz.prog 65 [.float .f64 (f_1), .float .f64 ((4607182418800017408 : Nat))] (tInt .i64) w2 fun r9 w8 =>
  F32_j1 (decide (r9 > (0 : Int))) w8 R
 )
theorem F32_ok {f_1 : Nat} {w : World} {R : Int → World → Prop} (h : F32 f_1 w R) : cl Tryz.prog 32 [.float .f64 (f_1)] (tInt .i64) w R := by
 unfold F32 at h
 refine calls_start 11 Tryz.func32 rfl rfl (Nat.le_of_ble_eq_true rfl) <| wp_seq <| wp_text [0] rfl <| za 2 (.int .i64 ((0 : Int))) rfl rfl <| ro_nil <| wp_seq <| wp_seq <| wp_text [0, 1, 2, 3, 4, 5, 6, 7] rfl <| zm 3 (.float .f64 (f_1)) rfl rfl <| zc ent64 rfl rfl h fun r3 w2 h => rv 5 rfl rfl rfl (q_lss (a := r3) (b := (3 : Int)) rfl rfl rfl) <| zm 6 (.bool ((decide (r3 < (3 : Int))))) rfl rfl ?_
 refine ro_join (σ := Bool) (J := fun (s : Bool) w => F32_j1 s w R) (fr := fun g (s : Bool) => upd (g) 10 (.bool (s))) [4, 5, 6, 7] [] ?_ ?_
 ·rintro t_4 g w5 h
  unfold F32_j1 at h
  refine ro_nil <| zi h rfl (fun _ h => ?_) fun _ h => ?_
  ·refine wp_seq <| wp_text [0] rfl <| za 2 (.int .i64 ((43 : Int))) rfl rfl <| ro_nil <| wp_ret ?_
   exact zr1 h rfl rfl
  ·refine wp_skip <| wp_seq <| wp_text [0] rfl <| za 2 (.int .i64 ((0 : Int))) rfl rfl <| ro_nil <| wp_ret ?_
   exact zr1 h rfl rfl
 ·refine ro_if (b := (decide (r3 < (3 : Int)))) h (fun hb7 h => ?_) (fun hb7 h => ?_)
  ·refine ro_bar (d := (some 7)) rfl (.by_ 3 false 6 (decide (r3 < (3 : Int))) rfl rfl rfl hb7) rfl <| ro_bar (d := (some 8)) rfl (.by_ 3 false 6 (decide (r3 < (3 : Int))) rfl rfl rfl hb7) rfl <| ro_bar (d := (some 9)) rfl (.by_ 3 false 6 (decide (r3 < (3 : Int))) rfl rfl rfl hb7) rfl <| rv 10 rfl rfl rfl (q_pickT (v := .bool (true)) (b := (decide (r3 < (3 : Int)))) rfl rfl hb7 rfl) <| ro_nil ?_
   exact ⟨(true), _, arr (upd_step rfl rfl), h⟩
  ·refine ro_val (d := (some 7)) rfl (.by_ 3 false 6 (decide (r3 < (3 : Int))) rfl rfl rfl hb7) rfl (q_move (v := .float .f64 (f_1)) rfl rfl) <| ro_wp rfl (.by_ 3 false 6 (decide (r3 < (3 : Int))) rfl rfl rfl hb7) (wp_cl (d := (some 8)) rfl (q_call (k := 65) (l := [.float .f64 (f_1), .float .f64 ((4607182418800017408 : Nat))]) rfl ent65 rfl) h ?_)
   intro r9 w8 h
   refine ro_val (d := (some 9)) rfl (.by_ 3 false 6 (decide (r3 < (3 : Int))) rfl rfl rfl hb7) rfl (q_gtr (a := r9) (b := (0 : Int)) rfl rfl rfl) <| rv 10 rfl rfl rfl (q_pickF (v := .bool ((decide (r9 > (0 : Int))))) (b := (decide (r3 < (3 : Int)))) rfl rfl hb7 rfl) <| ro_nil ?_
   exact ⟨((decide (r9 > (0 : Int)))), _, arr (upd_step rfl rfl), h⟩
def F33_j1 (d_1 : (Option Addr)) (log_2 : Int) (r6 : (Slc × Int)) (e_7 : Int) (w8 : World) (R : ((Option Addr) × Slc × Int) → World → Prop) : Prop :=
 if (e_7 != (0 : Int)) = true then (
  R ((none : Option Addr), (⟨none, 0, 0⟩ : Slc), e_7) w8
 ) else (
  nw 88 T87 (⟨(⟨(r6.1.len : Int), (r6.1.len : Int)⟩ : S85), d_1, log_2, false⟩ : S87) w8 fun a9 w10 =>
  R ((some a9), r6.1, (0 : Int)) w10
 )
def F33 (d_1 : (Option Addr)) (log_2 : Int) (w : World) (R : ((Option Addr) × Slc × Int) → World → Prop) : Prop :=
 if d_1.isNone = true then (
  R ((none : Option Addr), (⟨none, 0, 0⟩ : Slc), (80 : Int)) w
 ) else (
  cl Tryz.prog 66 [.pointer (d_1), .int .i64 (log_2)] (tTup2 tSlc (tInt .i64)) w fun r4 w3 =>
  if (r4.2 != (0 : Int)) = true then (
   R ((none : Option Addr), (⟨none, 0, 0⟩ : Slc), r4.2) w3
  ) else (
   cl Tryz.prog 67 [tSlc.enc (r4.1)] (tTup2 tSlc (tInt .i64)) w3 fun r6 w5 =>
   if (decide (r6.2 < (r4.1.len : Int))) = true then (
    ex (Sub r4.1 1 0 r6.2 r6.2) fun s12 =>
    cl Tryz.prog 68 [.pointer (d_1), .int .i64 (log_2), tSlc.enc (s12)] (tInt .i64) w5 fun r14 w13 =>
    F33_j1 d_1 log_2 r6 r14 w13 R
   ) else (
    cl Tryz.prog 69 [.pointer (d_1), .int .i64 (log_2)] (tInt .i64) w5 fun r16 w15 =>
    if (decide (r16 < r6.2)) = true then (
     cl Tryz.prog 38 [.pointer (d_1), .int .i64 (log_2)] (tInt .i64) w15 fun r18 w17 =>
     F33_j1 d_1 log_2 r6 r18 w17 R
    ) else (
     F33_j1 d_1 log_2 r6 r4.2 w15 R
    )
   )
  )
 )
theorem F33_ok {d_1 : (Option Addr)} {log_2 : Int} {w : World} {R : ((Option Addr) × Slc × Int) → World → Prop} (h : F33 d_1 log_2 w R) : cl Tryz.prog 33 [.pointer (d_1), .int .i64 (log_2)] (tTup3 tPtr tSlc (tInt .i64)) w R := by
 unfold F33 at h
 refine calls_start 61 Tryz.func33 rfl rfl (Nat.le_of_ble_eq_true rfl) <| wp_seq <| wp_text [0, 1, 2] rfl <| za 4 (.pointer ((none : Option Addr))) rfl rfl <| za 5 (tSlc.enc ((⟨none, 0, 0⟩ : Slc))) rfl rfl <| za 6 (.int .i64 ((0 : Int))) rfl rfl <| ro_nil <| wp_seq <| wp_seq <| wp_text [0, 1] rfl <| zm 11 (.pointer (d_1)) rfl rfl <| rv 12 rfl rfl rfl (q_eqP0 (a := d_1) rfl Tryz.underlying33 rfl rfl) ?_
 refine ro_nil <| zi h rfl (fun _ h => ?_) fun _ h => ?_
 ·refine wp_seq <| wp_text [0, 1, 2] rfl <| za 4 (.pointer ((none : Option Addr))) rfl rfl <| za 5 (tSlc.enc ((⟨none, 0, 0⟩ : Slc))) rfl rfl <| za 6 (.int .i64 ((80 : Int))) rfl rfl <| ro_nil <| wp_ret ?_
  exact zr3 h rfl rfl
 ·refine wp_skip <| wp_seq <| wp_text [0, 1, 2, 3, 4, 5, 6, 7] rfl <| zm 14 (.pointer (d_1)) rfl rfl <| zm 15 (.int .i64 (log_2)) rfl rfl <| zc ent66 rfl rfl h fun r4 w3 h => zm 13 ((tTup2 tSlc (tInt .i64)).enc (r4)) rfl rfl <| ze 17 (tSlc.enc (r4.1)) rfl rfl rfl <| ze 18 (.int .i64 (r4.2)) rfl rfl rfl <| za 7 (tSlc.enc (r4.1)) rfl rfl <| za 8 (.int .i64 (r4.2)) rfl rfl <| ro_nil ?_
  refine wp_seq <| wp_seq <| wp_text [0, 1] rfl <| zm 19 (.int .i64 (r4.2)) rfl rfl <| rv 20 rfl rfl rfl (q_neq (a := r4.2) (b := (0 : Int)) rfl rfl rfl) <| ro_nil <| zi h rfl (fun _ h => ?_) fun _ h => ?_
  ·refine wp_seq <| wp_text [0, 1, 2, 3] rfl <| zm 21 (.int .i64 (r4.2)) rfl rfl <| za 4 (.pointer ((none : Option Addr))) rfl rfl <| za 5 (tSlc.enc ((⟨none, 0, 0⟩ : Slc))) rfl rfl <| za 6 (.int .i64 (r4.2)) rfl rfl <| ro_nil <| wp_ret ?_
   exact zr3 h rfl rfl
  ·refine wp_skip <| wp_seq <| wp_text [0, 1, 2, 3, 4, 5, 6] rfl <| zm 23 (tSlc.enc (r4.1)) rfl rfl <| zc ent67 rfl rfl h fun r6 w5 h => zm 22 ((tTup2 tSlc (tInt .i64)).enc (r6)) rfl rfl <| ze 25 (tSlc.enc (r6.1)) rfl rfl rfl <| ze 26 (.int .i64 (r6.2)) rfl rfl rfl <| za 9 (tSlc.enc (r6.1)) rfl rfl <| za 10 (.int .i64 (r6.2)) rfl rfl <| ro_nil <| seq_join (σ := Int) (J := fun (s : Int) w => F33_j1 d_1 log_2 r6 s w R) (fr := fun g (s : Int) => upd (upd (upd (upd (g) 0 (.pointer (d_1))) 1 (.int .i64 (log_2))) 9 (tSlc.enc (r6.1))) 8 (.int .i64 (s))) ?_ ?_
   ·rintro e_7 g w8 h
    unfold F33_j1 at h
    refine wp_seq <| wp_seq <| wp_text [0, 1] rfl <| zm 48 (.int .i64 (e_7)) rfl rfl <| rv 49 rfl rfl rfl (q_neq (a := e_7) (b := (0 : Int)) rfl rfl rfl) <| ro_nil <| zi h rfl (fun _ h => ?_) fun _ h => ?_
    ·refine wp_seq <| wp_text [0, 1, 2, 3] rfl <| zm 50 (.int .i64 (e_7)) rfl rfl <| za 4 (.pointer ((none : Option Addr))) rfl rfl <| za 5 (tSlc.enc ((⟨none, 0, 0⟩ : Slc))) rfl rfl <| za 6 (.int .i64 (e_7)) rfl rfl <| ro_nil <| wp_ret ?_
     exact zr3 h rfl rfl
    ·refine wp_skip <| wp_seq <| wp_text [0, 1, 2, 3, 4, 5, 6, 7, 8, 9, 10, 11, 12] rfl <| zm 51 (tSlc.enc (r6.1)) rfl rfl <| rv 52 rfl rfl rfl (q_len (s := r6.1) rfl Tryz.underlying79 rfl) <| zm 53 (tSlc.enc (r6.1)) rfl rfl <| rv 54 rfl rfl rfl (q_len (s := r6.1) rfl Tryz.underlying79 rfl) <| rv 55 rfl rfl rfl (q_build86_0_1 (v0 := (r6.1.len : Int)) (v1 := (r6.1.len : Int)) rfl rfl rfl) <| zm 56 (.pointer (d_1)) rfl rfl <| zm 57 (.int .i64 (log_2)) rfl rfl <| rv 58 rfl rfl rfl (q_build88_0_1_2 (v0 := (⟨(r6.1.len : Int), (r6.1.len : Int)⟩ : S85)) (v1 := d_1) (v2 := log_2) rfl rfl rfl rfl) ?_
     obtain ⟨a9, w10, ha9, hw10, h⟩ := nw_open h
     refine rv 59 rfl rfl rfl (q_box (u := (⟨(⟨(r6.1.len : Int), (r6.1.len : Int)⟩ : S85), d_1, log_2, false⟩ : S87)) rfl ok88 rfl ha9 hw10) <| zm 60 (tSlc.enc (r6.1)) rfl rfl <| za 4 (.pointer (some a9)) rfl rfl <| za 5 (tSlc.enc (r6.1)) rfl rfl <| za 6 (.int .i64 ((0 : Int))) rfl rfl <| ro_nil <| wp_ret ?_
     exact zr3 h rfl rfl
   ·refine wp_block <| wp_seq <| wp_text [0, 1, 2, 3, 4] rfl <| zm 28 (.int .i64 (r6.2)) rfl rfl <| zm 29 (tSlc.enc (r4.1)) rfl rfl <| rv 30 rfl rfl rfl (q_len (s := r4.1) rfl Tryz.underlying25 rfl) <| rv 31 rfl rfl rfl (q_lss (a := r6.2) (b := (r4.1.len : Int)) rfl rfl rfl) <| za 27 (.bool ((decide (r6.2 < (r4.1.len : Int))))) rfl rfl <| ro_nil <| zi h rfl (fun _ h => ?_) fun _ h => ?_
    ·refine wp_text [0, 1, 2, 3, 4, 5, 6, 7] rfl <| zm 32 (.pointer (d_1)) rfl rfl <| zm 33 (.int .i64 (log_2)) rfl rfl <| zm 34 (tSlc.enc (r4.1)) rfl rfl <| zm 35 (.int .i64 (r6.2)) rfl rfl <| zm 36 (.int .i64 (r6.2)) rfl rfl ?_
     obtain ⟨s12, hs12, h⟩ := h
     refine rv 37 rfl rfl rfl (q_sliceHM (s := r4.1) (h := r6.2) (m := r6.2) rfl Tryz.underlying25 ok5 rfl rfl rfl hs12) <| zc ent68 rfl rfl h fun r14 w13 h => za 8 (.int .i64 (r14)) rfl rfl <| ro_nil ?_
     exact ⟨(r14), _, arr (upd_step (upd_step (upd_step (upd_step rfl rfl) rfl) rfl) rfl), h⟩
    ·refine wp_seq <| wp_text [0, 1, 2, 3, 4, 5] rfl <| zm 40 (.pointer (d_1)) rfl rfl <| zm 41 (.int .i64 (log_2)) rfl rfl <| zc ent69 rfl rfl h fun r16 w15 h => zm 43 (.int .i64 (r6.2)) rfl rfl <| rv 44 rfl rfl rfl (q_lss (a := r16) (b := r6.2) rfl rfl rfl) <| za 39 (.bool ((decide (r16 < r6.2)))) rfl rfl <| ro_nil <| zi h rfl (fun _ h => ?_) fun _ h => ?_
     ·refine wp_text [0, 1, 2, 3] rfl <| zm 45 (.pointer (d_1)) rfl rfl <| zm 46 (.int .i64 (log_2)) rfl rfl <| zc ent38 rfl rfl h fun r18 w17 h => za 8 (.int .i64 (r18)) rfl rfl <| ro_nil ?_
      exact ⟨(r18), _, arr (upd_step (upd_step (upd_step (upd_step rfl rfl) rfl) rfl) rfl), h⟩
     ·refine wp_skip ?_
      exact ⟨(r4.2), _, arr (upd_step (upd_step (upd_step (upd_step rfl rfl) rfl) rfl) rfl), h⟩
def F34 (rate_1 : Nat) (w : World) (R : ((Option Addr) × Int) → World → Prop) : Prop :=
 cl Tryz.prog 32 [.float .f64 (rate_1)] (tInt .i64) w fun r3 w2 =>
 if (r3 != (0 : Int)) = true then (
  R ((none : Option Addr), (150 : Int)) w2
 ) else (
  cl Tryz.prog 70 [] tPtr w2 fun r5 w4 =>
  nwMap w4 fun m7 w6 =>
  nwMap w6 fun m9 w8 =>
  nwMap w8 fun m11 w10 =>
  nw 101 T100 (⟨(⟨r5⟩ : S95), rate_1, (0 : Int), (some m7), (some m9), (some m11)⟩ : S100) w10 fun a12 w13 =>
  R ((some a12), (0 : Int)) w13
 )
theorem F34_ok {rate_1 : Nat} {w : World} {R : ((Option Addr) × Int) → World → Prop} (h : F34 rate_1 w R) : cl Tryz.prog 34 [.float .f64 (rate_1)] (tTup2 tPtr (tInt .i64)) w R := by
 unfold F34 at h
 refine calls_start 15 Tryz.func34 rfl rfl (Nat.le_of_ble_eq_true rfl) <| wp_seq <| wp_text [0, 1] rfl <| za 2 (.pointer ((none : Option Addr))) rfl rfl <| za 3 (.int .i64 ((0 : Int))) rfl rfl <| ro_nil <| wp_seq <| wp_seq <| wp_text [0, 1, 2] rfl <| zm 4 (.float .f64 (rate_1)) rfl rfl <| zc ent32 rfl rfl h fun r3 w2 h => rv 6 rfl rfl rfl (q_neq (a := r3) (b := (0 : Int)) rfl rfl rfl) ?_
 refine ro_nil <| zi h rfl (fun _ h => ?_) fun _ h => ?_
 ·refine wp_seq <| wp_text [0, 1] rfl <| za 2 (.pointer ((none : Option Addr))) rfl rfl <| za 3 (.int .i64 ((150 : Int))) rfl rfl <| ro_nil <| wp_ret ?_
  exact zr2 h rfl rfl
 ·refine wp_skip <| wp_seq <| wp_text [0, 1, 2, 3, 4, 5, 6, 7, 8, 9] rfl <| zc ent70 rfl rfl h fun r5 w4 h => rv 8 rfl rfl rfl (q_build96_0 (v0 := r5) rfl rfl) <| zm 9 (.float .f64 (rate_1)) rfl rfl ?_
  obtain ⟨m7, w6, hm7, hw6, h⟩ := nwMap_open h
  refine rv 10 rfl rfl rfl (q_makeMap rfl hm7 hw6) ?_
  obtain ⟨m9, w8, hm9, hw8, h⟩ := nwMap_open h
  refine rv 11 rfl rfl rfl (q_makeMap rfl hm9 hw8) ?_
  obtain ⟨m11, w10, hm11, hw10, h⟩ := nwMap_open h
  refine rv 12 rfl rfl rfl (q_makeMap rfl hm11 hw10) <| rv 13 rfl rfl rfl (q_build101_0_1_3_4_5 (v0 := (⟨r5⟩ : S95)) (v1 := rate_1) (v3 := (some m7)) (v4 := (some m9)) (v5 := (some m11)) rfl rfl rfl rfl rfl rfl) ?_
  obtain ⟨a12, w13, ha12, hw13, h⟩ := nw_open h
  refine rv 14 rfl rfl rfl (q_box (u := (⟨(⟨r5⟩ : S95), rate_1, (0 : Int), (some m7), (some m9), (some m11)⟩ : S100)) rfl ok101 rfl ha12 hw13) <| za 2 (.pointer (some a12)) rfl rfl <| za 3 (.int .i64 ((0 : Int))) rfl rfl <| ro_nil <| wp_ret ?_
  exact zr2 h rfl rfl
def F35 (s_1 : (Option Addr)) (x_2 : S22) (w : World) (R : Int → World → Prop) : Prop :=
 nw 23 T22 x_2 w fun a3 w4 =>
 ex (RdAt (tInt .i64) (a3.add 0) w4) fun x5 =>
 if (x5 == (1 : Int)) = true then (
  dr w4 fun w6 =>
  ex (NC s_1) fun a7 =>
  ex (RdAt tPtr (a7.add 1) w6) fun x8 =>
  ex (RdAt (tInt .i64) (a3.add 1) w6) fun x9 =>
  ex (RdAt (tInt .i64) (a3.add 3) w6) fun x10 =>
  ex (RdAt (tInt .i64) (a3.add 4) w6) fun x11 =>
  cl Tryz.prog 26 [.pointer (x8), .int .i64 (x9), .int .i64 (x10), .int .i64 (x11)] (tInt .i64) w6 fun r13 w12 =>
  R r13 w12
 ) else (
  if (x5 == (2 : Int)) = true then (
   dr w4 fun w14 =>
   ex (NC s_1) fun a15 =>
   ex (RdAt tPtr (a15.add 1) w14) fun x16 =>
   ex (RdAt (tInt .i64) (a3.add 1) w14) fun x17 =>
   ex (RdAt (tInt .i64) (a3.add 2) w14) fun x18 =>
   ex (RdAt (tInt .i64) (a3.add 3) w14) fun x19 =>
   ex (RdAt (tInt .i64) (a3.add 4) w14) fun x20 =>
   ex (RdAt tBool (a3.add 5) w14) fun x21 =>
   cl Tryz.prog 46 [.pointer (x16), .int .i64 (x17), T113.enc ((⟨x18, x19, x20, x21⟩ : S113))] (tInt .i64) w14 fun r23 w22 =>
   kp ((RdAt (tInt .i64) (a3.add 2) w22) x18) <|
   kp ((RdAt (tInt .i64) (a3.add 3) w22) x19) <|
   kp ((RdAt (tInt .i64) (a3.add 4) w22) x20) <|
   kp ((RdAt tBool (a3.add 5) w22) x21) <|
   R r23 w22
  ) else (
   dr w4 fun w28 =>
   ex (RdAt (tInt .i64) (a3.add 0) w28) fun x29 =>
   ex (RdAt (tInt .i64) (a3.add 1) w28) fun x30 =>
   ex (RdAt (tInt .i64) (a3.add 2) w28) fun x31 =>
   cl Tryz.prog 71 [.pointer (s_1), .int .i64 (x29)] tFun w28 fun r33 w32 =>
   kp ((RdAt (tInt .i64) (a3.add 1) w32) x30) <|
   kp ((RdAt (tInt .i64) (a3.add 2) w32) x31) <|
   clw Tryz.prog r33 [.int .i64 (x30), .int .i64 (x31)] (tInt .i64) w32 fun r37 w36 =>
   kp ((RdAt (tInt .i64) (a3.add 0) w36) x29) <|
   R r37 w36
  )
 )
theorem F35_ok {s_1 : (Option Addr)} {x_2 : S22} {w : World} {R : Int → World → Prop} (h : F35 s_1 x_2 w R) : cl Tryz.prog 35 [.pointer (s_1), T22.enc (x_2)] (tInt .i64) w R := by
 unfold F35 at h
 refine calls_start 47 Tryz.func35 rfl rfl (Nat.le_of_ble_eq_true rfl) <| wp_seq <| wp_text [0, 1] rfl ?_
 obtain ⟨a3, w4, ha3, hw4, h⟩ := nw_open h
 refine rv 3 rfl rfl rfl (q_box (u := x_2) rfl ok23 rfl ha3 hw4) <| za 4 (.int .i64 ((0 : Int))) rfl rfl <| ro_nil <| wp_seq <| wp_seq <| wp_text [0, 1] rfl <| zf 5 a3 0 Tryz.underlying23 ok3 rfl rfl rfl ?_
 obtain ⟨x5, hx5, h⟩ := h
 refine zl 6 hx5 ok3 rfl rfl <| ro_nil <| wp_block <| wp_seq <| wp_text [0, 1] rfl <| rv 8 rfl rfl rfl (q_eql (a := x5) (b := (1 : Int)) rfl rfl rfl) <| za 7 (.bool ((x5 == (1 : Int)))) rfl rfl <| ro_nil <| zi h rfl (fun _ h => ?_) fun _ h => ?_
 ·refine wp_seq ?_
  obtain ⟨w6, hw6, h⟩ := dr_open h
  refine wp_drawn 12 mixed rfl (by kernel_rfl) (by intro c a d v w h; cases d <;> exact h) hw6 (fun hD => ?_)
  refine ym 0 9 (.pointer (s_1)) hD rfl rfl ?_
  obtain ⟨a7, ha7, h⟩ := h
  refine yn 1 10 ha7 hD rfl rfl <| yf 2 11 a7 1 Tryz.underlying46 ok44 hD rfl rfl rfl <| yf 4 13 a3 1 Tryz.underlying23 ok2 hD rfl rfl rfl <| yf 6 15 a3 3 Tryz.underlying23 ok3 hD rfl rfl rfl <| yf 8 17 a3 4 Tryz.underlying23 ok2 hD rfl rfl rfl ?_
  obtain ⟨x8, hx8, h⟩ := h
  refine yr 3 12 hx8 ok44 hD rfl rfl ?_
  obtain ⟨x9, hx9, h⟩ := h
  refine yr 5 14 hx9 ok2 hD rfl rfl ?_
  obtain ⟨x10, hx10, h⟩ := h
  refine yr 7 16 hx10 ok3 hD rfl rfl ?_
  obtain ⟨x11, hx11, h⟩ := h
  refine yr 9 18 hx11 ok2 hD rfl rfl <| rd_one (i := 10) (by kernel_rfl) <| po_wp rfl (.free rfl) (wp_cl (d := (some 19)) rfl (q_call (k := 26) (l := [.pointer (x8), .int .i64 (x9), .int .i64 (x10), .int .i64 (x11)]) rfl ent26 rfl) h ?_)
  intro r13 w12 h
  refine ⟨(hk_wait (by kernel_rfl) (hk_wait (by kernel_rfl) (hk_wait (by kernel_rfl) (hk_wait (by kernel_rfl) hk_nil)))), ?_⟩
  refine ya 11 4 (.int .i64 (r13)) hD rfl rfl <| rd_nil (by kernel_rfl) <| wp_ret ?_
  exact zr1 h rfl rfl
 ·refine wp_seq <| wp_text [0, 1] rfl <| rv 21 rfl rfl rfl (q_eql (a := x5) (b := (2 : Int)) rfl rfl rfl) <| za 20 (.bool ((x5 == (2 : Int)))) rfl rfl <| ro_nil <| zi h rfl (fun _ h => ?_) fun _ h => ?_
  ·refine wp_seq ?_
   obtain ⟨w14, hw14, h⟩ := dr_open h
   refine wp_drawn 17 mixed rfl (by kernel_rfl) (by intro c a d v w h; cases d <;> exact h) hw14 (fun hD => ?_)
   refine ym 0 22 (.pointer (s_1)) hD rfl rfl ?_
   obtain ⟨a15, ha15, h⟩ := h
   refine yn 1 23 ha15 hD rfl rfl <| yf 2 24 a15 1 Tryz.underlying46 ok44 hD rfl rfl rfl <| yf 4 26 a3 1 Tryz.underlying23 ok2 hD rfl rfl rfl <| yf 6 28 a3 2 Tryz.underlying23 ok3 hD rfl rfl rfl <| yf 8 30 a3 3 Tryz.underlying23 ok3 hD rfl rfl rfl <| yf 10 32 a3 4 Tryz.underlying23 ok2 hD rfl rfl rfl <| yf 12 34 a3 5 Tryz.underlying23 ok4 hD rfl rfl rfl ?_
   obtain ⟨x16, hx16, h⟩ := h
   refine yr 3 25 hx16 ok44 hD rfl rfl ?_
   obtain ⟨x17, hx17, h⟩ := h
   refine yr 5 27 hx17 ok2 hD rfl rfl ?_
   obtain ⟨x18, hx18, h⟩ := h
   refine yr 7 29 hx18 ok3 hD rfl rfl ?_
   obtain ⟨x19, hx19, h⟩ := h
   refine yr 9 31 hx19 ok3 hD rfl rfl ?_
   obtain ⟨x20, hx20, h⟩ := h
   refine yr 11 33 hx20 ok2 hD rfl rfl ?_
   obtain ⟨x21, hx21, h⟩ := h
   refine yr 13 35 hx21 ok4 hD rfl rfl <| rp 14 36 hD rfl rfl rfl (fun _ => q_build114_0_1_2_3 (v0 := x18) (v1 := x19) (v2 := x20) (v3 := x21) rfl rfl rfl rfl rfl) <| rd_one (i := 15) (by kernel_rfl) <| po_wp rfl (.free rfl) (wp_cl (d := (some 37)) rfl (q_call (k := 46) (l := [.pointer (x16), .int .i64 (x17), T113.enc ((⟨x18, x19, x20, x21⟩ : S113))]) rfl ent46 rfl) h ?_)
   intro r23 w22 h
   obtain ⟨hk24, h⟩ := h
   obtain ⟨hk25, h⟩ := h
   obtain ⟨hk26, h⟩ := h
   obtain ⟨hk27, h⟩ := h
   refine ⟨(hk_keep (fun _ => hk27) (hk_keep (fun _ => hk26) (hk_keep (fun _ => hk25) (hk_keep (fun _ => hk24) (hk_wait (by kernel_rfl) (hk_wait (by kernel_rfl) hk_nil)))))), ?_⟩
   refine ya 16 4 (.int .i64 (r23)) hD rfl rfl <| rd_nil (by kernel_rfl) <| wp_ret ?_
   exact zr1 h rfl rfl
  ·refine wp_skip <| wp_seq ?_
   obtain ⟨w28, hw28, h⟩ := dr_open h
   refine wp_drawn 10 mixed rfl (by kernel_rfl) (by intro c a d v w h; cases d <;> exact h) hw28 (fun hD => ?_)
   refine ym 0 38 (.pointer (s_1)) hD rfl rfl <| yf 1 39 a3 0 Tryz.underlying23 ok3 hD rfl rfl rfl <| yf 4 42 a3 1 Tryz.underlying23 ok2 hD rfl rfl rfl <| yf 6 44 a3 2 Tryz.underlying23 ok3 hD rfl rfl rfl ?_
   obtain ⟨x29, hx29, h⟩ := h
   refine yr 2 40 hx29 ok3 hD rfl rfl ?_
   obtain ⟨x30, hx30, h⟩ := h
   refine yr 5 43 hx30 ok2 hD rfl rfl ?_
   obtain ⟨x31, hx31, h⟩ := h
   refine yr 7 45 hx31 ok3 hD rfl rfl <| rd_one (i := 3) (by kernel_rfl) <| po_wp rfl (.free rfl) (wp_cl (d := (some 41)) rfl (q_call (k := 71) (l := [.pointer (s_1), .int .i64 (x29)]) rfl ent71 rfl) h ?_)
   intro r33 w32 h
   obtain ⟨hk34, h⟩ := h
   obtain ⟨hk35, h⟩ := h
   refine ⟨(hk_keep (fun _ => hk35) (hk_keep (fun _ => hk34) (hk_wait (by kernel_rfl) hk_nil))), ?_⟩
   refine rd_one (i := 8) (by kernel_rfl) <| po_wp rfl (.free rfl) (wp_clw (d := (some 46)) (l := [.int .i64 (x30), .int .i64 (x31)]) (fv := r33) rfl rfl rfl rfl h ?_)
   intro r37 w36 h
   obtain ⟨hk38, h⟩ := h
   refine ⟨(hk_wait (by kernel_rfl) (hk_wait (by kernel_rfl) (hk_keep (fun _ => hk38) hk_nil))), ?_⟩
   refine ya 9 4 (.int .i64 (r37)) hD rfl rfl <| rd_nil (by kernel_rfl) <| wp_ret ?_
   exact zr1 h rfl rfl
def F36_j1 (e_7 : Int) (w8 : World) (R : Int → World → Prop) : Prop :=
 R e_7 w8
def F36 (w_1 : (Option Addr)) (load_2 : Slc) (w : World) (R : Int → World → Prop) : Prop :=
 ex (NC w_1) fun a3 =>
 ex (RdAt tBool (a3.add 4) w) fun x4 =>
 if x4 = true then (
  R (81 : Int) w
 ) else (
  cl Tryz.prog 72 [tSlc.enc (load_2)] (tTup2 tSlc (tInt .i64)) w fun r6 w5 =>
  if (r6.2 != (0 : Int)) = true then (
   R r6.2 w5
  ) else (
   dr w5 fun w9 =>
   ex (RdAt tPtr (a3.add 2) w9) fun x10 =>
   ex (RdAt (tInt .i64) (a3.add 3) w9) fun x11 =>
   cl Tryz.prog 73 [.pointer (x10), .int .i64 (x11), tSlc.enc (r6.1)] (tInt .i64) w9 fun r13 w12 =>
   cl Tryz.prog 37 [.pointer (w_1), .int .i64 (r13)] (tInt .i64) w12 fun r15 w14 =>
   kp ((RdAt tPtr (a3.add 2) w14) x10) <|
   kp ((RdAt (tInt .i64) (a3.add 3) w14) x11) <|
   if (r15 == (0 : Int)) = true then (
    ex (RdAt (tInt .i64) ((a3.add 0).add 0) w14) fun x18 =>
    st (tInt .i64) ((a3.add 0).add 0) (IntKind.i64.wrap (x18 + (1 : Int))) w14 fun w19 =>
    F36_j1 r15 w19 R
   ) else (
    F36_j1 r15 w14 R
   )
  )
 )
theorem F36_ok {w_1 : (Option Addr)} {load_2 : Slc} {w : World} {R : Int → World → Prop} (h : F36 w_1 load_2 w R) : cl Tryz.prog 36 [.pointer (w_1), tSlc.enc (load_2)] (tInt .i64) w R := by
 unfold F36 at h
 refine calls_start 43 Tryz.func36 rfl rfl (Nat.le_of_ble_eq_true rfl) <| wp_seq <| wp_text [0] rfl <| za 4 (.int .i64 ((0 : Int))) rfl rfl <| ro_nil <| wp_seq <| wp_seq <| wp_text [0, 1, 2, 3] rfl <| zm 7 (.pointer (w_1)) rfl rfl ?_
 obtain ⟨a3, ha3, h⟩ := h
 refine zn 8 ha3 rfl rfl <| zf 9 a3 4 Tryz.underlying88 ok4 rfl rfl rfl ?_
 obtain ⟨x4, hx4, h⟩ := h
 refine zl 10 hx4 ok4 rfl rfl <| ro_nil <| zi h rfl (fun _ h => ?_) fun _ h => ?_
 ·refine wp_seq <| wp_text [0] rfl <| za 4 (.int .i64 ((81 : Int))) rfl rfl <| ro_nil <| wp_ret ?_
  exact zr1 h rfl rfl
 ·refine wp_skip <| wp_seq <| wp_text [0, 1, 2, 3, 4, 5, 6] rfl <| zm 12 (tSlc.enc (load_2)) rfl rfl <| zc ent72 rfl rfl h fun r6 w5 h => zm 11 ((tTup2 tSlc (tInt .i64)).enc (r6)) rfl rfl <| ze 14 (tSlc.enc (r6.1)) rfl rfl rfl <| ze 15 (.int .i64 (r6.2)) rfl rfl rfl <| za 5 (tSlc.enc (r6.1)) rfl rfl <| za 6 (.int .i64 (r6.2)) rfl rfl <| ro_nil <| wp_seq ?_
  refine wp_seq <| wp_text [0, 1] rfl <| zm 16 (.int .i64 (r6.2)) rfl rfl <| rv 17 rfl rfl rfl (q_neq (a := r6.2) (b := (0 : Int)) rfl rfl rfl) <| ro_nil <| zi h rfl (fun _ h => ?_) fun _ h => ?_
  ·refine wp_seq <| wp_text [0, 1] rfl <| zm 18 (.int .i64 (r6.2)) rfl rfl <| za 4 (.int .i64 (r6.2)) rfl rfl <| ro_nil <| wp_ret ?_
   exact zr1 h rfl rfl
  ·refine wp_skip <| seq_join (σ := Int) (J := fun (s : Int) w => F36_j1 s w R) (fr := fun g (s : Int) => upd (g) 6 (.int .i64 (s))) ?_ ?_
   ·rintro e_7 g w8 h
    unfold F36_j1 at h
    refine wp_seq <| wp_text [0, 1] rfl <| zm 42 (.int .i64 (e_7)) rfl rfl <| za 4 (.int .i64 (e_7)) rfl rfl <| ro_nil <| wp_ret ?_
    exact zr1 h rfl rfl
   ·refine wp_seq ?_
    obtain ⟨w9, hw9, h⟩ := dr_open h
    refine wp_drawn 13 mixed rfl (by kernel_rfl) (by intro c a d v w h; cases d <;> exact h) hw9 (fun hD => ?_)
    refine ym 0 19 (.pointer (w_1)) hD rfl rfl <| ym 1 20 (.pointer (w_1)) hD rfl rfl <| yn 2 21 ha3 hD rfl rfl <| yf 3 22 a3 2 Tryz.underlying88 ok33 hD rfl rfl rfl <| ym 5 24 (.pointer (w_1)) hD rfl rfl <| yn 6 25 ha3 hD rfl rfl <| yf 7 26 a3 3 Tryz.underlying88 ok3 hD rfl rfl rfl <| ym 9 28 (tSlc.enc (r6.1)) hD rfl rfl ?_
    obtain ⟨x10, hx10, h⟩ := h
    refine yr 4 23 hx10 ok33 hD rfl rfl ?_
    obtain ⟨x11, hx11, h⟩ := h
    refine yr 8 27 hx11 ok3 hD rfl rfl <| rd_one (i := 10) (by kernel_rfl) <| po_wp rfl (.free rfl) (wp_cl (d := (some 29)) rfl (q_call (k := 73) (l := [.pointer (x10), .int .i64 (x11), tSlc.enc (r6.1)]) rfl ent73 rfl) h ?_)
    intro r13 w12 h
    refine ⟨(hk_wait (by kernel_rfl) (hk_wait (by kernel_rfl) hk_nil)), ?_⟩
    refine rd_one (i := 11) (by kernel_rfl) <| po_wp rfl (.free rfl) (wp_cl (d := (some 30)) rfl (q_call (k := 37) (l := [.pointer (w_1), .int .i64 (r13)]) rfl ent37 rfl) h ?_)
    intro r15 w14 h
    obtain ⟨hk16, h⟩ := h
    obtain ⟨hk17, h⟩ := h
    refine ⟨(hk_keep (fun _ => hk17) (hk_keep (fun _ => hk16) hk_nil)), ?_⟩
    refine ya 12 6 (.int .i64 (r15)) hD rfl rfl <| rd_nil (by kernel_rfl) <| wp_seq <| wp_text [0, 1] rfl <| zm 31 (.int .i64 (r15)) rfl rfl <| rv 32 rfl rfl rfl (q_eql (a := r15) (b := (0 : Int)) rfl rfl rfl) <| ro_nil <| zi h rfl (fun _ h => ?_) fun _ h => ?_
    ·refine wp_text [0, 1, 2, 3, 4, 5, 6, 7, 8, 9] rfl <| zm 33 (.pointer (w_1)) rfl rfl <| zn 34 ha3 rfl rfl <| zf 35 a3 0 Tryz.underlying88 ok86 rfl rfl rfl <| zf 36 (a3.add 0) 0 Tryz.underlying86 ok3 rfl rfl rfl ?_
     obtain ⟨x18, hx18, h⟩ := h
     refine zl 37 hx18 ok3 rfl rfl <| rv 38 rfl rfl rfl (q_add (a := x18) (b := (1 : Int)) rfl rfl rfl) <| zn 39 ha3 rfl rfl <| zf 40 a3 0 Tryz.underlying88 ok86 rfl rfl rfl <| zf 41 (a3.add 0) 0 Tryz.underlying86 ok3 rfl rfl rfl ?_
     obtain ⟨w19, hw19, hrw19, h⟩ := st_open h
     refine ro_skip (d := none) rfl (.free rfl) rfl (q_store (T := (tInt .i64)) (u := (IntKind.i64.wrap (x18 + (1 : Int)))) (a := ((a3.add 0).add 0)) rfl ok3 rfl rfl hrw19 hw19) <| ro_nil ?_
     exact ⟨(r15), _, arr (upd_step rfl rfl), h⟩
    ·refine wp_skip ?_
     exact ⟨(r15), _, arr (upd_step rfl rfl), h⟩
def F37 (w_1 : (Option Addr)) (e_2 : Int) (w : World) (R : Int → World → Prop) : Prop :=
 ex (NC w_1) fun a3 =>
 ex (RdAt tBool (a3.add 4) w) fun x4 =>
 st tBool (a3.add 4) (x4 || (e_2 == (71 : Int))) w fun w5 =>
 R e_2 w5
theorem F37_ok {w_1 : (Option Addr)} {e_2 : Int} {w : World} {R : Int → World → Prop} (h : F37 w_1 e_2 w R) : cl Tryz.prog 37 [.pointer (w_1), .int .i64 (e_2)] (tInt .i64) w R := by
 unfold F37 at h
 refine calls_start 17 Tryz.func37 rfl rfl (Nat.le_of_ble_eq_true rfl) <| wp_seq <| wp_text [0] rfl <| za 4 (.int .i64 ((0 : Int))) rfl rfl <| ro_nil <| wp_seq <| wp_text [0, 1, 2, 3, 4, 5, 6, 7, 8, 9, 10, 11] rfl <| zm 5 (.pointer (w_1)) rfl rfl <| zm 6 (.pointer (w_1)) rfl rfl ?_
 obtain ⟨a3, ha3, h⟩ := h
 refine zn 7 ha3 rfl rfl <| zf 8 a3 4 Tryz.underlying88 ok4 rfl rfl rfl ?_
 obtain ⟨x4, hx4, h⟩ := h
 refine zl 9 hx4 ok4 rfl rfl <| zm 10 (.bool (x4)) rfl rfl <| ro_gval (g := (!x4)) (d := (some 11)) rfl (.no 5 10 true x4 rfl rfl rfl rfl) rfl (fun hg => q_move (v := .int .i64 (e_2)) rfl rfl) <| ro_gval (g := (!x4)) (d := (some 12)) rfl (.no 5 10 true x4 rfl rfl rfl rfl) rfl (fun hg => q_eql (k := .i64) (a := e_2) (b := (71 : Int)) rfl (gvb_yes hg) rfl) <| rv 13 rfl rfl rfl (q_pickGF (a := x4) (c := (e_2 == (71 : Int))) rfl rfl rfl rfl) <| zn 14 ha3 rfl rfl <| zf 15 a3 4 Tryz.underlying88 ok4 rfl rfl rfl ?_
 obtain ⟨w5, hw5, hrw5, h⟩ := st_open h
 refine ro_skip (d := none) rfl (.free rfl) rfl (q_store (T := tBool) (u := (x4 || (e_2 == (71 : Int)))) (a := (a3.add 4)) rfl ok4 rfl rfl hrw5 hw5) <| ro_nil <| wp_seq <| wp_text [0, 1] rfl <| zm 16 (.int .i64 (e_2)) rfl rfl <| za 4 (.int .i64 (e_2)) rfl rfl <| ro_nil <| wp_ret ?_
 exact zr1 h rfl rfl
def F38 (d_1 : (Option Addr)) (n_2 : Int) (w : World) (R : Int → World → Prop) : Prop :=
 cl Tryz.prog 74 [.pointer (d_1), .int .i64 (n_2), .int .i64 ((0 : Int)), ((Fv.mk (.func 75) #[] #[])).enc] (tInt .i64) w fun r4 w3 =>
 R r4 w3
theorem F38_ok {d_1 : (Option Addr)} {n_2 : Int} {w : World} {R : Int → World → Prop} (h : F38 d_1 n_2 w R) : cl Tryz.prog 38 [.pointer (d_1), .int .i64 (n_2)] (tInt .i64) w R := by
 unfold F38 at h
 refine calls_start 8 Tryz.func38 rfl rfl (Nat.le_of_ble_eq_true rfl) <| wp_seq <| wp_text [0] rfl <| za 4 (.int .i64 ((0 : Int))) rfl rfl <| ro_nil <| wp_seq <| wp_text [0, 1, 2, 3] rfl <| zm 5 (.pointer (d_1)) rfl rfl <| zm 6 (.int .i64 (n_2)) rfl rfl <| zc ent74 rfl rfl h fun r4 w3 h => za 4 (.int .i64 (r4)) rfl rfl <| ro_nil ?_
 refine wp_ret ?_
 exact zr1 h rfl rfl
end Go.Proofs.YtehclfjjjiiieaaGreat.Cf
namespace Go.Proofs.YtehclfjjjiiieaaGreat.Cf
open Go
set_option maxRecDepth 100000
set_option maxHeartbeats 1000000
set_option linter.unusedVariables false
set_option linter.unusedSimpArgs false
def F39 (p_1 : S95) (w : World) (R : Int → World → Prop) : Prop :=
 nw 96 T95 p_1 w fun a2 w3 =>
 ex (RdAt tPtr (a2.add 0) w3) fun x4 =>
 cl Tryz.prog 76 [.pointer (x4)] (tInt .i64) w3 fun r6 w5 =>
 R r6 w5
theorem F39_ok {p_1 : S95} {w : World} {R : Int → World → Prop} (h : F39 p_1 w R) : cl Tryz.prog 39 [T95.enc (p_1)] (tInt .i64) w R := by
 unfold F39 at h
 refine calls_start 6 Tryz.func39 rfl rfl (Nat.le_of_ble_eq_true rfl) <| wp_seq <| wp_text [0, 1] rfl ?_
 obtain ⟨a2, w3, ha2, hw3, h⟩ := nw_open h
 refine rv 1 rfl rfl rfl (q_box (u := p_1) rfl ok96 rfl ha2 hw3) <| za 2 (.int .i64 ((0 : Int))) rfl rfl <| ro_nil <| wp_seq <| wp_text [0, 1, 2, 3] rfl <| zf 3 a2 0 Tryz.underlying96 ok94 rfl rfl rfl ?_
 obtain ⟨x4, hx4, h⟩ := h
 refine zl 4 hx4 ok94 rfl rfl <| zc ent76 rfl rfl h fun r6 w5 h => za 2 (.int .i64 (r6)) rfl rfl <| ro_nil <| wp_ret ?_
 exact zr1 h rfl rfl
def F40 (p_1 : S95) (w : World) (R : Int → World → Prop) : Prop :=
 nw 96 T95 p_1 w fun a2 w3 =>
 ex (RdAt tPtr (a2.add 0) w3) fun x4 =>
 cl Tryz.prog 77 [.pointer (x4)] (tInt .i64) w3 fun r6 w5 =>
 R r6 w5
theorem F40_ok {p_1 : S95} {w : World} {R : Int → World → Prop} (h : F40 p_1 w R) : cl Tryz.prog 40 [T95.enc (p_1)] (tInt .i64) w R := by
 unfold F40 at h
 refine calls_start 6 Tryz.func40 rfl rfl (Nat.le_of_ble_eq_true rfl) <| wp_seq <| wp_text [0, 1] rfl ?_
 obtain ⟨a2, w3, ha2, hw3, h⟩ := nw_open h
 refine rv 1 rfl rfl rfl (q_box (u := p_1) rfl ok96 rfl ha2 hw3) <| za 2 (.int .i64 ((0 : Int))) rfl rfl <| ro_nil <| wp_seq <| wp_text [0, 1, 2, 3] rfl <| zf 3 a2 0 Tryz.underlying96 ok94 rfl rfl rfl ?_
 obtain ⟨x4, hx4, h⟩ := h
 refine zl 4 hx4 ok94 rfl rfl <| zc ent77 rfl rfl h fun r6 w5 h => za 2 (.int .i64 (r6)) rfl rfl <| ro_nil <| wp_ret ?_
 exact zr1 h rfl rfl
def F41_l1 (a_1 : Slc) (b_2 : Slc) (i_3 : Int) (w4 : World) (K5 : Int → World → Prop) (R : Bool → World → Prop) : Prop :=
 if (decide (i_3 < (a_1.len : Int))) = true then (
  dr w4 fun w6 =>
  ex (IxA a_1 6 i_3) fun a7 =>
  ex (IxA b_2 6 i_3) fun a8 =>
  ex (RdAt T113 (a7.add 0) w6) fun x9 =>
  ex (RdAt T113 (a8.add 0) w6) fun x10 =>
  ex (fun x => (!(!(S113.eqb x9 x10))) = true → (IxA a_1 6 i_3) x) fun a11 =>
  ex (fun x => (!(!(S113.eqb x9 x10))) = true → (IxA b_2 6 i_3) x) fun a12 =>
  ex (fun x => (!(!(S113.eqb x9 x10))) = true → (RdAt (tInt .i64) (a11.add 4) w6) x) fun x13 =>
  ex (fun x => (!(!(S113.eqb x9 x10))) = true → (RdAt (tInt .i64) (a12.add 4) w6) x) fun x14 =>
  ex (fun x => (!((!(S113.eqb x9 x10)) || (x13 != x14))) = true → (IxA a_1 6 i_3) x) fun a15 =>
  ex (fun x => (!((!(S113.eqb x9 x10)) || (x13 != x14))) = true → (IxA b_2 6 i_3) x) fun a16 =>
  ex (fun x => (!((!(S113.eqb x9 x10)) || (x13 != x14))) = true → (RdAt (tInt .i64) (a15.add 5) w6) x) fun x17 =>
  ex (fun x => (!((!(S113.eqb x9 x10)) || (x13 != x14))) = true → (RdAt (tInt .i64) (a16.add 5) w6) x) fun x18 =>
  if (((!(S113.eqb x9 x10)) || (x13 != x14)) || (x17 != x18)) = true then (
   R false w6
  ) else (
   K5 ((IntKind.i64.wrap (i_3 + (1 : Int)))) w6
  )
 ) else (
  R true w4
 )
def F41 (a_1 : Slc) (b_2 : Slc) (w : World) (R : Bool → World → Prop) : Prop :=
 if ((a_1.len : Int) != (b_2.len : Int)) = true then (
  R false w
 ) else (
  lp (fun (s : Int) w K => F41_l1 a_1 b_2 s w K R) ((0 : Int)) w
 )
theorem F41_ok {a_1 : Slc} {b_2 : Slc} {w : World} {R : Bool → World → Prop} (h : F41 a_1 b_2 w R) : cl Tryz.prog 41 [tSlc.enc (a_1), tSlc.enc (b_2)] tBool w R := by
 unfold F41 at h
 refine calls_start 54 Tryz.func41 rfl rfl (Nat.le_of_ble_eq_true rfl) <| wp_seq <| wp_text [0] rfl <| za 4 (.bool (false)) rfl rfl <| ro_nil <| wp_seq <| wp_seq <| wp_text [0, 1, 2, 3, 4] rfl <| zm 6 (tSlc.enc (a_1)) rfl rfl <| rv 7 rfl rfl rfl (q_len (s := a_1) rfl Tryz.underlying103 rfl) <| zm 8 (tSlc.enc (b_2)) rfl rfl <| rv 9 rfl rfl rfl (q_len (s := b_2) rfl Tryz.underlying103 rfl) ?_
 refine rv 10 rfl rfl rfl (q_neq (a := (a_1.len : Int)) (b := (b_2.len : Int)) rfl rfl rfl) <| ro_nil <| zi h rfl (fun _ h => ?_) fun _ h => ?_
 ·refine wp_seq <| wp_text [0] rfl <| za 4 (.bool (false)) rfl rfl <| ro_nil <| wp_ret ?_
  exact zr1 h rfl rfl
 ·refine wp_skip <| wp_seq <| wp_seq <| wp_text [0] rfl <| za 5 (.int .i64 ((0 : Int))) rfl rfl <| ro_nil <| wp_block <| loop_at (σ := Int) (fr := fun g (s : Int) => upd (upd (upd (g) 0 (tSlc.enc (a_1))) 1 (tSlc.enc (b_2))) 5 (.int .i64 (s))) (s0 := ((0 : Int))) (upd_step (upd_step (upd_step rfl rfl) rfl) rfl) h ?_
  rintro i_3 g w4 K5 h
  unfold F41_l1 at h
  refine wp_seq <| wp_seq <| wp_text [0, 1, 2, 3] rfl <| zm 11 (.int .i64 (i_3)) rfl rfl <| zm 12 (tSlc.enc (a_1)) rfl rfl <| rv 13 rfl rfl rfl (q_len (s := a_1) rfl Tryz.underlying103 rfl) <| rv 14 rfl rfl rfl (q_lss (a := i_3) (b := (a_1.len : Int)) rfl rfl rfl) <| ro_nil <| zi h rfl (fun _ h => ?_) fun _ h => ?_
  ·refine wp_skip <| wp_seq <| wp_block <| wp_seq ?_
   obtain ⟨w6, hw6, h⟩ := dr_open h
   refine wp_drawn 37 mixed rfl (by kernel_rfl) (by intro c a d v w h; cases d <;> exact h) hw6 (fun hD => ?_)
   refine ym 0 17 (tSlc.enc (a_1)) hD rfl rfl <| ym 1 18 (.int .i64 (i_3)) hD rfl rfl ?_
   obtain ⟨a7, ha7, h⟩ := h
   refine rp 2 19 hD rfl rfl rfl (fun _ => q_indexAddr (s := a_1) (k := .i64) (i := i_3) rfl Tryz.underlying103 ok151 rfl rfl ha7) <| yf 3 20 a7 0 Tryz.underlying151 ok114 hD rfl rfl rfl <| ym 5 22 (tSlc.enc (b_2)) hD rfl rfl <| ym 6 23 (.int .i64 (i_3)) hD rfl rfl ?_
   obtain ⟨a8, ha8, h⟩ := h
   refine rp 7 24 hD rfl rfl rfl (fun _ => q_indexAddr (s := b_2) (k := .i64) (i := i_3) rfl Tryz.underlying103 ok151 rfl rfl ha8) <| yf 8 25 a8 0 Tryz.underlying151 ok114 hD rfl rfl rfl ?_
   obtain ⟨x9, hx9, h⟩ := h
   refine yr 4 21 hx9 ok114 hD rfl rfl ?_
   obtain ⟨x10, hx10, h⟩ := h
   refine yr 9 26 hx10 ok114 hD rfl rfl <| rp 10 27 hD rfl rfl rfl (fun _ => q_neT (r := (S113.eqb x9 x10)) rfl (eq114 x9 x10) rfl rfl) <| ym 11 28 (.bool ((!(S113.eqb x9 x10)))) hD rfl rfl <| rd_gpure (i := 12) (g := (!(!(S113.eqb x9 x10)))) (d := (some 29)) hD (by kernel_rfl) (by kernel_rfl) rfl (.no 11 28 true (!(S113.eqb x9 x10)) rfl rfl rfl rfl) rfl (fun hg _ => q_move (v := tSlc.enc (a_1)) rfl rfl) <| rd_gpure (i := 13) (g := (!(!(S113.eqb x9 x10)))) (d := (some 30)) hD (by kernel_rfl) (by kernel_rfl) rfl (.no 11 28 true (!(S113.eqb x9 x10)) rfl rfl rfl rfl) rfl (fun hg _ => q_move (v := .int .i64 (i_3)) rfl rfl) ?_
   obtain ⟨a11, ha11, h⟩ := h
   refine rd_gpure (i := 14) (g := (!(!(S113.eqb x9 x10)))) (d := (some 31)) hD (by kernel_rfl) (by kernel_rfl) rfl (.no 11 28 true (!(S113.eqb x9 x10)) rfl rfl rfl rfl) rfl (fun hg _ => q_indexAddr (s := a_1) (k := .i64) (i := i_3) rfl Tryz.underlying103 ok151 (gvb_yes hg) (gvb_yes hg) (ha11 hg)) <| rd_gpure (i := 15) (g := (!(!(S113.eqb x9 x10)))) (d := (some 32)) hD (by kernel_rfl) (by kernel_rfl) rfl (.no 11 28 true (!(S113.eqb x9 x10)) rfl rfl rfl rfl) rfl (fun hg _ => q_fieldAddr (a := a11) (off := 4) rfl Tryz.underlying151 rfl rfl ok2 (by decide) (gvb_yes hg)) <| rd_gpure (i := 17) (g := (!(!(S113.eqb x9 x10)))) (d := (some 34)) hD (by kernel_rfl) (by kernel_rfl) rfl (.no 11 28 true (!(S113.eqb x9 x10)) rfl rfl rfl rfl) rfl (fun hg _ => q_move (v := tSlc.enc (b_2)) rfl rfl) <| rd_gpure (i := 18) (g := (!(!(S113.eqb x9 x10)))) (d := (some 35)) hD (by kernel_rfl) (by kernel_rfl) rfl (.no 11 28 true (!(S113.eqb x9 x10)) rfl rfl rfl rfl) rfl (fun hg _ => q_move (v := .int .i64 (i_3)) rfl rfl) ?_
   obtain ⟨a12, ha12, h⟩ := h
   refine rd_gpure (i := 19) (g := (!(!(S113.eqb x9 x10)))) (d := (some 36)) hD (by kernel_rfl) (by kernel_rfl) rfl (.no 11 28 true (!(S113.eqb x9 x10)) rfl rfl rfl rfl) rfl (fun hg _ => q_indexAddr (s := b_2) (k := .i64) (i := i_3) rfl Tryz.underlying103 ok151 (gvb_yes hg) (gvb_yes hg) (ha12 hg)) <| rd_gpure (i := 20) (g := (!(!(S113.eqb x9 x10)))) (d := (some 37)) hD (by kernel_rfl) (by kernel_rfl) rfl (.no 11 28 true (!(S113.eqb x9 x10)) rfl rfl rfl rfl) rfl (fun hg _ => q_fieldAddr (a := a12) (off := 4) rfl Tryz.underlying151 rfl rfl ok2 (by decide) (gvb_yes hg)) ?_
   obtain ⟨x13, hx13, h⟩ := h
   refine rd_gread (i := 16) (g := (!(!(S113.eqb x9 x10)))) (d := (some 33)) (fun W => (RdAt (tInt .i64) (a11.add 4) W) x13) hD (by kernel_rfl) (by kernel_rfl) rfl (.no 11 28 true (!(S113.eqb x9 x10)) rfl rfl rfl rfl) rfl (fun hg W hr => q_load (T := (tInt .i64)) (u := x13) (a := (a11.add 4)) rfl ok2 (gvb_yes hg) hr) hx13 ?_
   obtain ⟨x14, hx14, h⟩ := h
   refine rd_gread (i := 21) (g := (!(!(S113.eqb x9 x10)))) (d := (some 38)) (fun W => (RdAt (tInt .i64) (a12.add 4) W) x14) hD (by kernel_rfl) (by kernel_rfl) rfl (.no 11 28 true (!(S113.eqb x9 x10)) rfl rfl rfl rfl) rfl (fun hg W hr => q_load (T := (tInt .i64)) (u := x14) (a := (a12.add 4)) rfl ok2 (gvb_yes hg) hr) hx14 <| rd_gpure (i := 22) (g := (!(!(S113.eqb x9 x10)))) (d := (some 39)) hD (by kernel_rfl) (by kernel_rfl) rfl (.no 11 28 true (!(S113.eqb x9 x10)) rfl rfl rfl rfl) rfl (fun hg _ => q_neq (k := .i64) (a := x13) (b := x14) rfl (gvb_yes hg) (gvb_yes hg)) <| rp 23 40 hD rfl rfl rfl (fun _ => q_pickGF (a := (!(S113.eqb x9 x10))) (c := (x13 != x14)) rfl rfl rfl rfl) <| ym 24 41 (.bool (((!(S113.eqb x9 x10)) || (x13 != x14)))) hD rfl rfl <| rd_gpure (i := 25) (g := (!((!(S113.eqb x9 x10)) || (x13 != x14)))) (d := (some 42)) hD (by kernel_rfl) (by kernel_rfl) rfl (.no 24 41 true ((!(S113.eqb x9 x10)) || (x13 != x14)) rfl rfl rfl rfl) rfl (fun hg _ => q_move (v := tSlc.enc (a_1)) rfl rfl) <| rd_gpure (i := 26) (g := (!((!(S113.eqb x9 x10)) || (x13 != x14)))) (d := (some 43)) hD (by kernel_rfl) (by kernel_rfl) rfl (.no 24 41 true ((!(S113.eqb x9 x10)) || (x13 != x14)) rfl rfl rfl rfl) rfl (fun hg _ => q_move (v := .int .i64 (i_3)) rfl rfl) ?_
   obtain ⟨a15, ha15, h⟩ := h
   refine rd_gpure (i := 27) (g := (!((!(S113.eqb x9 x10)) || (x13 != x14)))) (d := (some 44)) hD (by kernel_rfl) (by kernel_rfl) rfl (.no 24 41 true ((!(S113.eqb x9 x10)) || (x13 != x14)) rfl rfl rfl rfl) rfl (fun hg _ => q_indexAddr (s := a_1) (k := .i64) (i := i_3) rfl Tryz.underlying103 ok151 (gvb_yes hg) (gvb_yes hg) (ha15 hg)) <| rd_gpure (i := 28) (g := (!((!(S113.eqb x9 x10)) || (x13 != x14)))) (d := (some 45)) hD (by kernel_rfl) (by kernel_rfl) rfl (.no 24 41 true ((!(S113.eqb x9 x10)) || (x13 != x14)) rfl rfl rfl rfl) rfl (fun hg _ => q_fieldAddr (a := a15) (off := 5) rfl Tryz.underlying151 rfl rfl ok2 (by decide) (gvb_yes hg)) <| rd_gpure (i := 30) (g := (!((!(S113.eqb x9 x10)) || (x13 != x14)))) (d := (some 47)) hD (by kernel_rfl) (by kernel_rfl) rfl (.no 24 41 true ((!(S113.eqb x9 x10)) || (x13 != x14)) rfl rfl rfl rfl) rfl (fun hg _ => q_move (v := tSlc.enc (b_2)) rfl rfl) <| rd_gpure (i := 31) (g := (!((!(S113.eqb x9 x10)) || (x13 != x14)))) (d := (some 48)) hD (by kernel_rfl) (by kernel_rfl) rfl (.no 24 41 true ((!(S113.eqb x9 x10)) || (x13 != x14)) rfl rfl rfl rfl) rfl (fun hg _ => q_move (v := .int .i64 (i_3)) rfl rfl) ?_
   obtain ⟨a16, ha16, h⟩ := h
   refine rd_gpure (i := 32) (g := (!((!(S113.eqb x9 x10)) || (x13 != x14)))) (d := (some 49)) hD (by kernel_rfl) (by kernel_rfl) rfl (.no 24 41 true ((!(S113.eqb x9 x10)) || (x13 != x14)) rfl rfl rfl rfl) rfl (fun hg _ => q_indexAddr (s := b_2) (k := .i64) (i := i_3) rfl Tryz.underlying103 ok151 (gvb_yes hg) (gvb_yes hg) (ha16 hg)) <| rd_gpure (i := 33) (g := (!((!(S113.eqb x9 x10)) || (x13 != x14)))) (d := (some 50)) hD (by kernel_rfl) (by kernel_rfl) rfl (.no 24 41 true ((!(S113.eqb x9 x10)) || (x13 != x14)) rfl rfl rfl rfl) rfl (fun hg _ => q_fieldAddr (a := a16) (off := 5) rfl Tryz.underlying151 rfl rfl ok2 (by decide) (gvb_yes hg)) ?_
   obtain ⟨x17, hx17, h⟩ := h
   refine rd_gread (i := 29) (g := (!((!(S113.eqb x9 x10)) || (x13 != x14)))) (d := (some 46)) (fun W => (RdAt (tInt .i64) (a15.add 5) W) x17) hD (by kernel_rfl) (by kernel_rfl) rfl (.no 24 41 true ((!(S113.eqb x9 x10)) || (x13 != x14)) rfl rfl rfl rfl) rfl (fun hg W hr => q_load (T := (tInt .i64)) (u := x17) (a := (a15.add 5)) rfl ok2 (gvb_yes hg) hr) hx17 ?_
   obtain ⟨x18, hx18, h⟩ := h
   refine rd_gread (i := 34) (g := (!((!(S113.eqb x9 x10)) || (x13 != x14)))) (d := (some 51)) (fun W => (RdAt (tInt .i64) (a16.add 5) W) x18) hD (by kernel_rfl) (by kernel_rfl) rfl (.no 24 41 true ((!(S113.eqb x9 x10)) || (x13 != x14)) rfl rfl rfl rfl) rfl (fun hg W hr => q_load (T := (tInt .i64)) (u := x18) (a := (a16.add 5)) rfl ok2 (gvb_yes hg) hr) hx18 <| rd_gpure (i := 35) (g := (!((!(S113.eqb x9 x10)) || (x13 != x14)))) (d := (some 52)) hD (by kernel_rfl) (by kernel_rfl) rfl (.no 24 41 true ((!(S113.eqb x9 x10)) || (x13 != x14)) rfl rfl rfl rfl) rfl (fun hg _ => q_neq (k := .i64) (a := x17) (b := x18) rfl (gvb_yes hg) (gvb_yes hg)) <| rp 36 53 hD rfl rfl rfl (fun _ => q_pickGF (a := ((!(S113.eqb x9 x10)) || (x13 != x14))) (c := (x17 != x18)) rfl rfl rfl rfl) <| rd_nil (by kernel_rfl) <| zi h rfl (fun _ h => ?_) fun _ h => ?_
   ·refine wp_seq <| wp_text [0] rfl <| za 4 (.bool (false)) rfl rfl <| ro_nil <| wp_ret ?_
    exact zr1 h rfl rfl
   ·refine wp_skip <| wp_text [0, 1, 2] rfl <| zm 15 (.int .i64 (i_3)) rfl rfl <| rv 16 rfl rfl rfl (q_add (a := i_3) (b := (1 : Int)) rfl rfl rfl) <| za 5 (.int .i64 ((IntKind.i64.wrap (i_3 + (1 : Int))))) rfl rfl <| ro_nil ?_
    exact ⟨((IntKind.i64.wrap (i_3 + (1 : Int)))), _, arr (upd_step (upd_step (upd_step rfl rfl) rfl) rfl), h⟩
  ·refine wp_exit <| wp_seq <| wp_text [0] rfl <| za 4 (.bool (true)) rfl rfl <| ro_nil <| wp_ret ?_
   exact zr1 h rfl rfl
def F42_l1 (a2 : Addr) (r7 : Slc) (l_8 : Slc) (t_9 : Int) (w10 : World) (K11 : Slc × Int → World → Prop) (R : Slc → World → Prop) : Prop :=
 if (decide (t_9 < (r7.len : Int))) = true then (
  ex (IxA r7 1 t_9) fun a12 =>
  ex (RdAt (tInt .i64) a12 w10) fun x13 =>
  ex (RdAt tMap (a2.add 3) w10) fun x14 =>
  ex (MapGet T150 .i64 x14 x13 w10) fun m15 =>
  apl 151 T150 6 48 l_8 [(m15.getD Z150)] w10 fun r19 w18 =>
  K11 (r19, (IntKind.i64.wrap (t_9 + (1 : Int)))) w18
 ) else (
  R l_8 w10
 )
def F42 (v_1 : (Option Addr)) (w : World) (R : Slc → World → Prop) : Prop :=
 ex (NC v_1) fun a2 =>
 ex (RdAt tMap (a2.add 3) w) fun x3 =>
 cl Tryz.prog 79 [.map (x3)] tFun w fun r5 w4 =>
 cl Tryz.prog 78 [(r5).enc] tSlc w4 fun r7 w6 =>
 lp (fun (s : Slc × Int) w K => F42_l1 a2 r7 s.1 s.2 w K R) ((⟨none, 0, 0⟩ : Slc), (0 : Int)) w6
theorem F42_ok {v_1 : (Option Addr)} {w : World} {R : Slc → World → Prop} (h : F42 v_1 w R) : cl Tryz.prog 42 [.pointer (v_1)] tSlc w R := by
 unfold F42 at h
 refine calls_start 28 Tryz.func42 rfl rfl (Nat.le_of_ble_eq_true rfl) <| wp_seq <| wp_text [0] rfl <| za 2 (tSlc.enc ((⟨none, 0, 0⟩ : Slc))) rfl rfl <| ro_nil <| wp_seq <| wp_text [0] rfl <| za 3 (tSlc.enc ((⟨none, 0, 0⟩ : Slc))) rfl rfl <| ro_nil <| wp_seq <| wp_seq <| wp_text [0, 1, 2, 3, 4, 5, 6, 7] rfl ?_
 refine zm 6 (.pointer (v_1)) rfl rfl ?_
 obtain ⟨a2, ha2, h⟩ := h
 refine zn 7 ha2 rfl rfl <| zf 8 a2 3 Tryz.underlying101 ok97 rfl rfl rfl ?_
 obtain ⟨x3, hx3, h⟩ := h
 refine zl 9 hx3 ok97 rfl rfl <| zc ent79 rfl rfl h fun r5 w4 h => zc ent78 rfl rfl h fun r7 w6 h => rv 12 rfl rfl rfl (q_len (s := r7) rfl Tryz.underlying57 rfl) <| zm 13 (.int .i64 ((0 : Int))) rfl rfl <| ro_nil <| wp_block <| loop_at (σ := Slc × Int) (fr := fun g (s : Slc × Int) => upd (upd (upd (upd (upd (g) 0 (.pointer (v_1))) 11 (tSlc.enc (r7))) 12 (.int .i64 ((r7.len : Int)))) 3 (tSlc.enc (s.1))) 13 (.int .i64 (s.2))) (s0 := ((⟨none, 0, 0⟩ : Slc), (0 : Int))) (upd_step (upd_step (upd_step (upd_step (upd_step rfl rfl) rfl) rfl) rfl) rfl) h ?_
 rintro ⟨l_8, t_9⟩ g w10 K11 h
 unfold F42_l1 at h
 refine wp_seq <| wp_text [0] rfl <| rv 14 rfl rfl rfl (q_lss (a := t_9) (b := (r7.len : Int)) rfl rfl rfl) <| ro_nil <| wp_seq <| zi h rfl (fun _ h => ?_) fun _ h => ?_
 ·refine wp_skip <| wp_seq <| wp_block <| wp_seq <| wp_text [0, 1, 2] rfl ?_
  obtain ⟨a12, ha12, h⟩ := h
  refine rv 15 rfl rfl rfl (q_indexAddr (s := r7) (k := .i64) (i := t_9) rfl Tryz.underlying57 ok3 rfl rfl ha12) ?_
  obtain ⟨x13, hx13, h⟩ := h
  refine zl 16 hx13 ok3 rfl rfl <| za 5 (.int .i64 (x13)) rfl rfl <| ro_nil <| wp_text [0, 1, 2, 3, 4, 5, 6, 7, 8, 9] rfl <| zm 17 (tSlc.enc (l_8)) rfl rfl <| zm 18 (.pointer (v_1)) rfl rfl <| zn 19 ha2 rfl rfl <| zf 20 a2 3 Tryz.underlying101 ok97 rfl rfl rfl ?_
  obtain ⟨x14, hx14, h⟩ := h
  refine zl 21 hx14 ok97 rfl rfl <| zm 22 (.int .i64 (x13)) rfl rfl ?_
  obtain ⟨m15, hm15, h⟩ := h
  refine rv 23 rfl rfl rfl (q_lookup (T := T150) (r := x14) (key := x13) (u := m15) (z := Z150) rfl Tryz.underlying97 Tryz.underlying3 (inf151) rfl rfl hm15) ?_
  obtain ⟨a16, w17, ha16, hw17, h⟩ := apl_open h
  refine rv 24 rfl rfl rfl (q_rowOf (T := T150) (xs := [(m15.getD Z150)]) rfl Tryz.underlying103 ok151 inf151 rfl (by decide) (by decide) rfl ha16 hw17) <| ro_wp rfl (.free rfl) (wp_append (d := (some 25)) (T := T150) rfl rfl Tryz.underlying103 ⟨_, Tryz.underlying103⟩ ok151 inf151 rfl rfl (Nat.lt_of_lt_of_le Nat.zero_lt_one (Nat.le_of_ble_eq_true rfl)) rfl rfl h ?_)
  intro r19 w18 h
  refine za 3 (tSlc.enc (r19)) rfl rfl <| ro_nil <| wp_text [0, 1] rfl <| rv 26 rfl rfl rfl (q_add (a := t_9) (b := (1 : Int)) rfl rfl rfl) <| zm 13 (.int .i64 ((IntKind.i64.wrap (t_9 + (1 : Int))))) rfl rfl <| ro_nil ?_
  exact ⟨(r19, (IntKind.i64.wrap (t_9 + (1 : Int)))), _, arr (upd_step (upd_step (upd_step (upd_step (upd_step rfl rfl) rfl) rfl) rfl) rfl), h⟩
 ·refine wp_exit <| wp_seq <| wp_text [0, 1] rfl <| zm 27 (tSlc.enc (l_8)) rfl rfl <| za 2 (tSlc.enc (l_8)) rfl rfl <| ro_nil <| wp_ret ?_
  exact zr1 h rfl rfl
def F43 (v_1 : (Option Addr)) (id_2 : Int) (w : World) (R : (Int × Int) → World → Prop) : Prop :=
 ex (NC v_1) fun a3 =>
 ex (RdAt tMap (a3.add 5) w) fun x4 =>
 ex (MapGet T156 .i64 x4 id_2 w) fun m5 =>
 nw 157 T156 Z156 w fun a6 w7 =>
 st T156 a6 (m5.getD Z156) w7 fun w8 =>
 dr w8 fun w9 =>
 ex (RdAt (tInt .i64) (a6.add 0) w9) fun x10 =>
 ex (RdAt (tInt .i64) (a6.add 1) w9) fun x11 =>
 R (x10, x11) w9
theorem F43_ok {v_1 : (Option Addr)} {id_2 : Int} {w : World} {R : (Int × Int) → World → Prop} (h : F43 v_1 id_2 w R) : cl Tryz.prog 43 [.pointer (v_1), .int .i64 (id_2)] (tTup2 (tInt .i64) (tInt .i64)) w R := by
 unfold F43 at h
 refine calls_start 17 Tryz.func43 rfl rfl (Nat.le_of_ble_eq_true rfl) <| wp_seq <| wp_text [0, 1] rfl <| za 4 (.int .i64 ((0 : Int))) rfl rfl <| za 5 (.int .i64 ((0 : Int))) rfl rfl <| ro_nil <| wp_seq <| wp_text [0, 1, 2, 3, 4, 5, 6, 7] rfl <| zm 7 (.pointer (v_1)) rfl rfl ?_
 obtain ⟨a3, ha3, h⟩ := h
 refine zn 8 ha3 rfl rfl <| zf 9 a3 5 Tryz.underlying101 ok99 rfl rfl rfl ?_
 obtain ⟨x4, hx4, h⟩ := h
 refine zl 10 hx4 ok99 rfl rfl <| zm 11 (.int .i64 (id_2)) rfl rfl ?_
 obtain ⟨m5, hm5, h⟩ := h
 refine rv 12 rfl rfl rfl (q_lookup (T := T156) (r := x4) (key := id_2) (u := m5) (z := Z156) rfl Tryz.underlying99 Tryz.underlying3 (inf157) rfl rfl hm5) ?_
 obtain ⟨a6, w7, ha6, hw7, h⟩ := nw_open h
 refine rv 6 rfl rfl rfl (q_alloc (u := Z156) rfl ok157 inf157 ha6 hw7) ?_
 obtain ⟨w8, hw8, hrw8, h⟩ := st_open h
 refine ro_skip (d := none) rfl (.free rfl) rfl (q_store (T := T156) (u := (m5.getD Z156)) (a := a6) rfl ok157 rfl rfl hrw8 hw8) <| ro_nil <| wp_seq ?_
 obtain ⟨w9, hw9, h⟩ := dr_open h
 refine wp_drawn 6 mixed rfl (by kernel_rfl) (by intro c a d v w h; cases d <;> exact h) hw9 (fun hD => ?_)
 refine yf 0 13 a6 0 Tryz.underlying157 ok105 hD rfl rfl rfl <| yf 2 15 a6 1 Tryz.underlying157 ok2 hD rfl rfl rfl ?_
 obtain ⟨x10, hx10, h⟩ := h
 refine yr 1 14 hx10 ok105 hD rfl rfl <| ya 4 4 (.int .i64 (x10)) hD rfl rfl ?_
 obtain ⟨x11, hx11, h⟩ := h
 refine yr 3 16 hx11 ok2 hD rfl rfl <| ya 5 5 (.int .i64 (x11)) hD rfl rfl <| rd_nil (by kernel_rfl) <| wp_ret ?_
 exact zr2 h rfl rfl
def F44 (v_1 : (Option Addr)) (at_2 : Int) (w : World) (R : (Slc × Int) → World → Prop) : Prop :=
 ex (NC v_1) fun a3 =>
 ex (RdAt tPtr ((a3.add 0).add 0) w) fun x4 =>
 cl Tryz.prog 80 [.pointer (x4), .int .i64 (at_2)] (tTup2 tSlc (tInt .i64)) w fun r6 w5 =>
 cl Tryz.prog 81 [.int .i64 (r6.2)] (tInt .i64) w5 fun r8 w7 =>
 R (r6.1, r8) w7
theorem F44_ok {v_1 : (Option Addr)} {at_2 : Int} {w : World} {R : (Slc × Int) → World → Prop} (h : F44 v_1 at_2 w R) : cl Tryz.prog 44 [.pointer (v_1), .int .i64 (at_2)] (tTup2 tSlc (tInt .i64)) w R := by
 unfold F44 at h
 refine calls_start 21 Tryz.func44 rfl rfl (Nat.le_of_ble_eq_true rfl) <| wp_seq <| wp_text [0, 1] rfl <| za 4 (tSlc.enc ((⟨none, 0, 0⟩ : Slc))) rfl rfl <| za 5 (.int .i64 ((0 : Int))) rfl rfl <| ro_nil <| wp_seq <| wp_text [0, 1, 2, 3, 4, 5, 6, 7, 8, 9, 10, 11] rfl <| zm 9 (.pointer (v_1)) rfl rfl ?_
 obtain ⟨a3, ha3, h⟩ := h
 refine zn 10 ha3 rfl rfl <| zf 11 a3 0 Tryz.underlying101 ok96 rfl rfl rfl <| zf 12 (a3.add 0) 0 Tryz.underlying96 ok94 rfl rfl rfl ?_
 obtain ⟨x4, hx4, h⟩ := h
 refine zl 13 hx4 ok94 rfl rfl <| zm 14 (.int .i64 (at_2)) rfl rfl <| zc ent80 rfl rfl h fun r6 w5 h => zm 8 ((tTup2 tSlc (tInt .i64)).enc (r6)) rfl rfl <| ze 16 (tSlc.enc (r6.1)) rfl rfl rfl <| ze 17 (.int .i64 (r6.2)) rfl rfl rfl <| za 6 (tSlc.enc (r6.1)) rfl rfl <| za 7 (.int .i64 (r6.2)) rfl rfl <| ro_nil <| wp_seq <| wp_text [0, 1, 2, 3, 4] rfl <| zm 18 (tSlc.enc (r6.1)) rfl rfl ?_
 refine zm 19 (.int .i64 (r6.2)) rfl rfl <| zc ent81 rfl rfl h fun r8 w7 h => za 4 (tSlc.enc (r6.1)) rfl rfl <| za 5 (.int .i64 (r8)) rfl rfl <| ro_nil <| wp_ret ?_
 exact zr2 h rfl rfl
def F45_l1 (a_1 : Slc) (b_2 : Slc) (i_3 : Int) (w4 : World) (K5 : Int → World → Prop) (R : Bool → World → Prop) : Prop :=
 if (decide (i_3 < (a_1.len : Int))) = true then (
  dr w4 fun w6 =>
  ex (IxA a_1 2 i_3) fun a7 =>
  ex (IxA b_2 2 i_3) fun a8 =>
  ex (RdAt (tInt .i64) (a7.add 0) w6) fun x9 =>
  ex (RdAt (tInt .i64) (a8.add 0) w6) fun x10 =>
  ex (fun x => (!(x9 != x10)) = true → (IxA a_1 2 i_3) x) fun a11 =>
  ex (fun x => (!(x9 != x10)) = true → (IxA b_2 2 i_3) x) fun a12 =>
  ex (fun x => (!(x9 != x10)) = true → (RdAt (tInt .i64) (a11.add 1) w6) x) fun x13 =>
  ex (fun x => (!(x9 != x10)) = true → (RdAt (tInt .i64) (a12.add 1) w6) x) fun x14 =>
  if ((x9 != x10) || (x13 != x14)) = true then (
   R false w6
  ) else (
   K5 ((IntKind.i64.wrap (i_3 + (1 : Int)))) w6
  )
 ) else (
  R true w4
 )
def F45 (a_1 : Slc) (b_2 : Slc) (w : World) (R : Bool → World → Prop) : Prop :=
 if ((a_1.len : Int) != (b_2.len : Int)) = true then (
  R false w
 ) else (
  lp (fun (s : Int) w K => F45_l1 a_1 b_2 s w K R) ((0 : Int)) w
 )
theorem F45_ok {a_1 : Slc} {b_2 : Slc} {w : World} {R : Bool → World → Prop} (h : F45 a_1 b_2 w R) : cl Tryz.prog 45 [tSlc.enc (a_1), tSlc.enc (b_2)] tBool w R := by
 unfold F45 at h
 refine calls_start 41 Tryz.func45 rfl rfl (Nat.le_of_ble_eq_true rfl) <| wp_seq <| wp_text [0] rfl <| za 4 (.bool (false)) rfl rfl <| ro_nil <| wp_seq <| wp_seq <| wp_text [0, 1, 2, 3, 4] rfl <| zm 6 (tSlc.enc (a_1)) rfl rfl <| rv 7 rfl rfl rfl (q_len (s := a_1) rfl Tryz.underlying108 rfl) <| zm 8 (tSlc.enc (b_2)) rfl rfl <| rv 9 rfl rfl rfl (q_len (s := b_2) rfl Tryz.underlying108 rfl) ?_
 refine rv 10 rfl rfl rfl (q_neq (a := (a_1.len : Int)) (b := (b_2.len : Int)) rfl rfl rfl) <| ro_nil <| zi h rfl (fun _ h => ?_) fun _ h => ?_
 ·refine wp_seq <| wp_text [0] rfl <| za 4 (.bool (false)) rfl rfl <| ro_nil <| wp_ret ?_
  exact zr1 h rfl rfl
 ·refine wp_skip <| wp_seq <| wp_seq <| wp_text [0] rfl <| za 5 (.int .i64 ((0 : Int))) rfl rfl <| ro_nil <| wp_block <| loop_at (σ := Int) (fr := fun g (s : Int) => upd (upd (upd (g) 0 (tSlc.enc (a_1))) 1 (tSlc.enc (b_2))) 5 (.int .i64 (s))) (s0 := ((0 : Int))) (upd_step (upd_step (upd_step rfl rfl) rfl) rfl) h ?_
  rintro i_3 g w4 K5 h
  unfold F45_l1 at h
  refine wp_seq <| wp_seq <| wp_text [0, 1, 2, 3] rfl <| zm 11 (.int .i64 (i_3)) rfl rfl <| zm 12 (tSlc.enc (a_1)) rfl rfl <| rv 13 rfl rfl rfl (q_len (s := a_1) rfl Tryz.underlying108 rfl) <| rv 14 rfl rfl rfl (q_lss (a := i_3) (b := (a_1.len : Int)) rfl rfl rfl) <| ro_nil <| zi h rfl (fun _ h => ?_) fun _ h => ?_
  ·refine wp_skip <| wp_seq <| wp_block <| wp_seq ?_
   obtain ⟨w6, hw6, h⟩ := dr_open h
   refine wp_drawn 24 mixed rfl (by kernel_rfl) (by intro c a d v w h; cases d <;> exact h) hw6 (fun hD => ?_)
   refine ym 0 17 (tSlc.enc (a_1)) hD rfl rfl <| ym 1 18 (.int .i64 (i_3)) hD rfl rfl ?_
   obtain ⟨a7, ha7, h⟩ := h
   refine rp 2 19 hD rfl rfl rfl (fun _ => q_indexAddr (s := a_1) (k := .i64) (i := i_3) rfl Tryz.underlying108 ok123 rfl rfl ha7) <| yf 3 20 a7 0 Tryz.underlying123 ok3 hD rfl rfl rfl <| ym 5 22 (tSlc.enc (b_2)) hD rfl rfl <| ym 6 23 (.int .i64 (i_3)) hD rfl rfl ?_
   obtain ⟨a8, ha8, h⟩ := h
   refine rp 7 24 hD rfl rfl rfl (fun _ => q_indexAddr (s := b_2) (k := .i64) (i := i_3) rfl Tryz.underlying108 ok123 rfl rfl ha8) <| yf 8 25 a8 0 Tryz.underlying123 ok3 hD rfl rfl rfl ?_
   obtain ⟨x9, hx9, h⟩ := h
   refine yr 4 21 hx9 ok3 hD rfl rfl ?_
   obtain ⟨x10, hx10, h⟩ := h
   refine yr 9 26 hx10 ok3 hD rfl rfl <| rp 10 27 hD rfl rfl rfl (fun _ => q_neq (a := x9) (b := x10) rfl rfl rfl) <| ym 11 28 (.bool ((x9 != x10))) hD rfl rfl <| rd_gpure (i := 12) (g := (!(x9 != x10))) (d := (some 29)) hD (by kernel_rfl) (by kernel_rfl) rfl (.no 11 28 true (x9 != x10) rfl rfl rfl rfl) rfl (fun hg _ => q_move (v := tSlc.enc (a_1)) rfl rfl) <| rd_gpure (i := 13) (g := (!(x9 != x10))) (d := (some 30)) hD (by kernel_rfl) (by kernel_rfl) rfl (.no 11 28 true (x9 != x10) rfl rfl rfl rfl) rfl (fun hg _ => q_move (v := .int .i64 (i_3)) rfl rfl) ?_
   obtain ⟨a11, ha11, h⟩ := h
   refine rd_gpure (i := 14) (g := (!(x9 != x10))) (d := (some 31)) hD (by kernel_rfl) (by kernel_rfl) rfl (.no 11 28 true (x9 != x10) rfl rfl rfl rfl) rfl (fun hg _ => q_indexAddr (s := a_1) (k := .i64) (i := i_3) rfl Tryz.underlying108 ok123 (gvb_yes hg) (gvb_yes hg) (ha11 hg)) <| rd_gpure (i := 15) (g := (!(x9 != x10))) (d := (some 32)) hD (by kernel_rfl) (by kernel_rfl) rfl (.no 11 28 true (x9 != x10) rfl rfl rfl rfl) rfl (fun hg _ => q_fieldAddr (a := a11) (off := 1) rfl Tryz.underlying123 rfl rfl ok2 (by decide) (gvb_yes hg)) <| rd_gpure (i := 17) (g := (!(x9 != x10))) (d := (some 34)) hD (by kernel_rfl) (by kernel_rfl) rfl (.no 11 28 true (x9 != x10) rfl rfl rfl rfl) rfl (fun hg _ => q_move (v := tSlc.enc (b_2)) rfl rfl) <| rd_gpure (i := 18) (g := (!(x9 != x10))) (d := (some 35)) hD (by kernel_rfl) (by kernel_rfl) rfl (.no 11 28 true (x9 != x10) rfl rfl rfl rfl) rfl (fun hg _ => q_move (v := .int .i64 (i_3)) rfl rfl) ?_
   obtain ⟨a12, ha12, h⟩ := h
   refine rd_gpure (i := 19) (g := (!(x9 != x10))) (d := (some 36)) hD (by kernel_rfl) (by kernel_rfl) rfl (.no 11 28 true (x9 != x10) rfl rfl rfl rfl) rfl (fun hg _ => q_indexAddr (s := b_2) (k := .i64) (i := i_3) rfl Tryz.underlying108 ok123 (gvb_yes hg) (gvb_yes hg) (ha12 hg)) <| rd_gpure (i := 20) (g := (!(x9 != x10))) (d := (some 37)) hD (by kernel_rfl) (by kernel_rfl) rfl (.no 11 28 true (x9 != x10) rfl rfl rfl rfl) rfl (fun hg _ => q_fieldAddr (a := a12) (off := 1) rfl Tryz.underlying123 rfl rfl ok2 (by decide) (gvb_yes hg)) ?_
   obtain ⟨x13, hx13, h⟩ := h
   refine rd_gread (i := 16) (g := (!(x9 != x10))) (d := (some 33)) (fun W => (RdAt (tInt .i64) (a11.add 1) W) x13) hD (by kernel_rfl) (by kernel_rfl) rfl (.no 11 28 true (x9 != x10) rfl rfl rfl rfl) rfl (fun hg W hr => q_load (T := (tInt .i64)) (u := x13) (a := (a11.add 1)) rfl ok2 (gvb_yes hg) hr) hx13 ?_
   obtain ⟨x14, hx14, h⟩ := h
   refine rd_gread (i := 21) (g := (!(x9 != x10))) (d := (some 38)) (fun W => (RdAt (tInt .i64) (a12.add 1) W) x14) hD (by kernel_rfl) (by kernel_rfl) rfl (.no 11 28 true (x9 != x10) rfl rfl rfl rfl) rfl (fun hg W hr => q_load (T := (tInt .i64)) (u := x14) (a := (a12.add 1)) rfl ok2 (gvb_yes hg) hr) hx14 <| rd_gpure (i := 22) (g := (!(x9 != x10))) (d := (some 39)) hD (by kernel_rfl) (by kernel_rfl) rfl (.no 11 28 true (x9 != x10) rfl rfl rfl rfl) rfl (fun hg _ => q_neq (k := .i64) (a := x13) (b := x14) rfl (gvb_yes hg) (gvb_yes hg)) <| rp 23 40 hD rfl rfl rfl (fun _ => q_pickGF (a := (x9 != x10)) (c := (x13 != x14)) rfl rfl rfl rfl) <| rd_nil (by kernel_rfl) <| zi h rfl (fun _ h => ?_) fun _ h => ?_
   ·refine wp_seq <| wp_text [0] rfl <| za 4 (.bool (false)) rfl rfl <| ro_nil <| wp_ret ?_
    exact zr1 h rfl rfl
   ·refine wp_skip <| wp_text [0, 1, 2] rfl <| zm 15 (.int .i64 (i_3)) rfl rfl <| rv 16 rfl rfl rfl (q_add (a := i_3) (b := (1 : Int)) rfl rfl rfl) <| za 5 (.int .i64 ((IntKind.i64.wrap (i_3 + (1 : Int))))) rfl rfl <| ro_nil ?_
    exact ⟨((IntKind.i64.wrap (i_3 + (1 : Int)))), _, arr (upd_step (upd_step (upd_step rfl rfl) rfl) rfl), h⟩
  ·refine wp_exit <| wp_seq <| wp_text [0] rfl <| za 4 (.bool (true)) rfl rfl <| ro_nil <| wp_ret ?_
   exact zr1 h rfl rfl
def F46 (v_1 : (Option Addr)) (t_2 : Int) (p_3 : S113) (w : World) (R : Int → World → Prop) : Prop :=
 nw 114 T113 p_3 w fun a4 w5 =>
 cl Tryz.prog 51 [.pointer (v_1), .int .i64 (t_2)] (tInt .i64) w5 fun r7 w6 =>
 if (r7 != (0 : Int)) = true then (
  R r7 w6
 ) else (
  ex (RdAt T113 a4 w6) fun x8 =>
  cl Tryz.prog 82 [.pointer (v_1), T113.enc (x8)] (tTup2 (tInt .i64) (tInt .i64)) w6 fun r10 w9 =>
  if (r10.2 != (0 : Int)) = true then (
   R r10.2 w9
  ) else (
   dr w9 fun w11 =>
   ex (NC v_1) fun a12 =>
   ex (RdAt tMap (a12.add 3) w11) fun x13 =>
   ex (RdAt (tInt .i64) (a4.add 0) w11) fun x14 =>
   ex (RdAt T113 a4 w11) fun x15 =>
   mput T150 .i64 x13 x14 (⟨x15, t_2, r10.1⟩ : S150) w11 fun w16 =>
   dr w16 fun w17 =>
   ex (RdAt tMap (a12.add 4) w17) fun x18 =>
   ex (RdAt (tInt .i64) (a4.add 1) w17) fun x19 =>
   ex (RdAt (tInt .i64) (a4.add 0) w17) fun x20 =>
   mput (tInt .i64) .i64 x18 x19 x20 w17 fun w21 =>
   dr w21 fun w22 =>
   ex (RdAt tMap (a12.add 5) w22) fun x23 =>
   ex (RdAt (tInt .i64) (a4.add 0) w22) fun x24 =>
   mput T156 .i64 x23 x24 (⟨(1 : Int), t_2⟩ : S156) w22 fun w25 =>
   cl Tryz.prog 56 [.pointer (v_1), .int .i64 (t_2)] tUnit w25 fun r27 w26 =>
   R (0 : Int) w26
  )
 )
theorem F46_ok {v_1 : (Option Addr)} {t_2 : Int} {p_3 : S113} {w : World} {R : Int → World → Prop} (h : F46 v_1 t_2 p_3 w R) : cl Tryz.prog 46 [.pointer (v_1), .int .i64 (t_2), T113.enc (p_3)] (tInt .i64) w R := by
 unfold F46 at h
 refine calls_start 54 Tryz.func46 rfl rfl (Nat.le_of_ble_eq_true rfl) <| wp_seq <| wp_text [0, 1] rfl ?_
 obtain ⟨a4, w5, ha4, hw5, h⟩ := nw_open h
 refine rv 5 rfl rfl rfl (q_box (u := p_3) rfl ok114 rfl ha4 hw5) <| za 6 (.int .i64 ((0 : Int))) rfl rfl <| ro_nil <| wp_seq <| wp_seq <| wp_text [0, 1, 2, 3] rfl <| zm 10 (.pointer (v_1)) rfl rfl <| zm 11 (.int .i64 (t_2)) rfl rfl <| zc ent51 rfl rfl h fun r7 w6 h => za 7 (.int .i64 (r7)) rfl rfl <| ro_nil <| wp_seq ?_
 refine wp_text [0, 1] rfl <| zm 13 (.int .i64 (r7)) rfl rfl <| rv 14 rfl rfl rfl (q_neq (a := r7) (b := (0 : Int)) rfl rfl rfl) <| ro_nil <| zi h rfl (fun _ h => ?_) fun _ h => ?_
 ·refine wp_seq <| wp_text [0, 1] rfl <| zm 15 (.int .i64 (r7)) rfl rfl <| za 6 (.int .i64 (r7)) rfl rfl <| ro_nil <| wp_ret ?_
  exact zr1 h rfl rfl
 ·refine wp_skip <| wp_seq <| wp_text [0, 1, 2, 3, 4, 5, 6, 7] rfl <| zm 17 (.pointer (v_1)) rfl rfl ?_
  obtain ⟨x8, hx8, h⟩ := h
  refine zl 18 hx8 ok114 rfl rfl <| zc ent82 rfl rfl h fun r10 w9 h => zm 16 ((tTup2 (tInt .i64) (tInt .i64)).enc (r10)) rfl rfl <| ze 20 (.int .i64 (r10.1)) rfl rfl rfl <| ze 21 (.int .i64 (r10.2)) rfl rfl rfl <| za 8 (.int .i64 (r10.1)) rfl rfl <| za 9 (.int .i64 (r10.2)) rfl rfl <| ro_nil <| wp_seq <| wp_seq <| wp_text [0, 1] rfl <| zm 22 (.int .i64 (r10.2)) rfl rfl ?_
  refine rv 23 rfl rfl rfl (q_neq (a := r10.2) (b := (0 : Int)) rfl rfl rfl) <| ro_nil <| zi h rfl (fun _ h => ?_) fun _ h => ?_
  ·refine wp_seq <| wp_text [0, 1] rfl <| zm 24 (.int .i64 (r10.2)) rfl rfl <| za 6 (.int .i64 (r10.2)) rfl rfl <| ro_nil <| wp_ret ?_
   exact zr1 h rfl rfl
  ·refine wp_skip <| wp_seq ?_
   obtain ⟨w11, hw11, h⟩ := dr_open h
   refine wp_drawn 11 mixed rfl (by kernel_rfl) (by intro c a d v w h; cases d <;> exact h) hw11 (fun hD => ?_)
   refine ym 0 25 (.pointer (v_1)) hD rfl rfl ?_
   obtain ⟨a12, ha12, h⟩ := h
   refine yn 1 26 ha12 hD rfl rfl <| yf 2 27 a12 3 Tryz.underlying101 ok97 hD rfl rfl rfl <| yf 4 29 a4 0 Tryz.underlying114 ok3 hD rfl rfl rfl <| ym 7 32 (.int .i64 (t_2)) hD rfl rfl <| ym 8 33 (.int .i64 (r10.1)) hD rfl rfl ?_
   obtain ⟨x13, hx13, h⟩ := h
   refine yr 3 28 hx13 ok97 hD rfl rfl ?_
   obtain ⟨x14, hx14, h⟩ := h
   refine yr 5 30 hx14 ok3 hD rfl rfl ?_
   obtain ⟨x15, hx15, h⟩ := h
   refine yr 6 31 hx15 ok114 hD rfl rfl <| rp 9 34 hD rfl rfl rfl (fun _ => q_build151_0_1_2 (v0 := x15) (v1 := t_2) (v2 := r10.1) rfl rfl rfl rfl) <| rd_one (i := 10) (by kernel_rfl) <| po_wp rfl (.free rfl) (wp_mput (T := T150) (r := x13) (key := x14) (v := (⟨x15, t_2, r10.1⟩ : S150)) (d := none) rfl (.inl rfl) Tryz.underlying97 Tryz.underlying3 rfl rfl rfl h ?_)
   intro w16 h
   refine ⟨(hk_wait (by kernel_rfl) (hk_wait (by kernel_rfl) (hk_wait (by kernel_rfl) hk_nil))), ?_⟩
   refine rd_nil (by kernel_rfl) <| wp_seq ?_
   obtain ⟨w17, hw17, h⟩ := dr_open h
   refine wp_drawn 9 mixed rfl (by kernel_rfl) (by intro c a d v w h; cases d <;> exact h) hw17 (fun hD => ?_)
   refine ym 0 35 (.pointer (v_1)) hD rfl rfl <| yn 1 36 ha12 hD rfl rfl <| yf 2 37 a12 4 Tryz.underlying101 ok98 hD rfl rfl rfl <| yf 4 39 a4 1 Tryz.underlying114 ok3 hD rfl rfl rfl <| yf 6 41 a4 0 Tryz.underlying114 ok3 hD rfl rfl rfl ?_
   obtain ⟨x18, hx18, h⟩ := h
   refine yr 3 38 hx18 ok98 hD rfl rfl ?_
   obtain ⟨x19, hx19, h⟩ := h
   refine yr 5 40 hx19 ok3 hD rfl rfl ?_
   obtain ⟨x20, hx20, h⟩ := h
   refine yr 7 42 hx20 ok3 hD rfl rfl <| rd_one (i := 8) (by kernel_rfl) <| po_wp rfl (.free rfl) (wp_mput (T := (tInt .i64)) (r := x18) (key := x19) (v := x20) (d := none) rfl (.inl rfl) Tryz.underlying98 Tryz.underlying3 rfl rfl rfl h ?_)
   intro w21 h
   refine ⟨(hk_wait (by kernel_rfl) (hk_wait (by kernel_rfl) (hk_wait (by kernel_rfl) hk_nil))), ?_⟩
   refine rd_nil (by kernel_rfl) <| wp_seq ?_
   obtain ⟨w22, hw22, h⟩ := dr_open h
   refine wp_drawn 9 mixed rfl (by kernel_rfl) (by intro c a d v w h; cases d <;> exact h) hw22 (fun hD => ?_)
   refine ym 0 43 (.pointer (v_1)) hD rfl rfl <| yn 1 44 ha12 hD rfl rfl <| yf 2 45 a12 5 Tryz.underlying101 ok99 hD rfl rfl rfl <| yf 4 47 a4 0 Tryz.underlying114 ok3 hD rfl rfl rfl <| ym 6 49 (.int .i64 (t_2)) hD rfl rfl <| rp 7 50 hD rfl rfl rfl (fun _ => q_build157_0_1 (v0 := (1 : Int)) (v1 := t_2) rfl rfl rfl) ?_
   obtain ⟨x23, hx23, h⟩ := h
   refine yr 3 46 hx23 ok99 hD rfl rfl ?_
   obtain ⟨x24, hx24, h⟩ := h
   refine yr 5 48 hx24 ok3 hD rfl rfl <| rd_one (i := 8) (by kernel_rfl) <| po_wp rfl (.free rfl) (wp_mput (T := T156) (r := x23) (key := x24) (v := (⟨(1 : Int), t_2⟩ : S156)) (d := none) rfl (.inl rfl) Tryz.underlying99 Tryz.underlying3 rfl rfl rfl h ?_)
   intro w25 h
   refine ⟨(hk_wait (by kernel_rfl) (hk_wait (by kernel_rfl) hk_nil)), ?_⟩
   refine rd_nil (by kernel_rfl) <| wp_seq <| wp_text [0, 1, 2] rfl <| zm 51 (.pointer (v_1)) rfl rfl <| zm 52 (.int .i64 (t_2)) rfl rfl <| zc ent56 rfl rfl h fun r27 w26 h => ro_nil <| wp_seq <| wp_text [0] rfl <| za 6 (.int .i64 ((0 : Int))) rfl rfl <| ro_nil <| wp_ret ?_
   exact zr1 h rfl rfl
end Go.Proofs.YtehclfjjjiiieaaGreat.Cf
namespace Go.Proofs.YtehclfjjjiiieaaGreat.Cf
open Go
set_option maxRecDepth 100000
set_option maxHeartbeats 1000000
set_option linter.unusedVariables false
set_option linter.unusedSimpArgs false
def F47 (v_1 : (Option Addr)) (t_2 : Int) (id_3 : Int) (w : World) (R : Int → World → Prop) : Prop :=
 if ((decide (t_2 < (1 : Int))) || (decide (t_2 > (1125899906842624 : Int)))) = true then (
  R (151 : Int) w
 ) else (
  ex (NC v_1) fun a4 =>
  ex (RdAt tMap (a4.add 5) w) fun x5 =>
  ex (MapGet T156 .i64 x5 id_3 w) fun m6 =>
  nw 157 T156 Z156 w fun a7 w8 =>
  st T156 a7 (m6.getD Z156) w8 fun w9 =>
  ex (RdAt (tInt .i64) (a7.add 0) w9) fun x10 =>
  if (x10 == (2 : Int)) = true then (
   ex (RdAt (tInt .i64) (a7.add 1) w9) fun x11 =>
   if (x11 != t_2) = true then (
    R (157 : Int) w9
   ) else (
    R (0 : Int) w9
   )
  ) else (
   if (x10 == (1 : Int)) = true then (
    ex (RdAt tMap (a4.add 3) w9) fun x13 =>
    ex (MapGet T150 .i64 x13 id_3 w9) fun m14 =>
    nw 151 T150 Z150 w9 fun a15 w16 =>
    st T150 a15 (m14.getD Z150) w16 fun w17 =>
    ex (RdAt (tInt .i64) (a15.add 4) w17) fun x18 =>
    if (decide (t_2 < x18)) = true then (
     R (152 : Int) w17
    ) else (
     dr w17 fun w19 =>
     ex (RdAt tPtr ((a4.add 0).add 0) w19) fun x20 =>
     ex (RdAt T150 a15 w19) fun x21 =>
     cl Tryz.prog 83 [.pointer (v_1), T150.enc (x21)] tSlc w19 fun r23 w22 =>
     kp ((RdAt tPtr ((a4.add 0).add 0) w22) x20) <|
     cl Tryz.prog 55 [.pointer (x20), .int .i64 (t_2), tSlc.enc (r23)] (tInt .i64) w22 fun r26 w25 =>
     kp ((RdAt T150 a15 w25) x21) <|
     ex (RdAt T150 a15 w25) fun x28 =>
     cl Tryz.prog 84 [.pointer (v_1), T150.enc (x28)] tUnit w25 fun r30 w29 =>
     ex (RdAt tMap (a4.add 5) w29) fun x31 =>
     mput T156 .i64 x31 id_3 (⟨(2 : Int), t_2⟩ : S156) w29 fun w32 =>
     cl Tryz.prog 56 [.pointer (v_1), .int .i64 (t_2)] tUnit w32 fun r34 w33 =>
     R (0 : Int) w33
    )
   ) else (
    R (163 : Int) w9
   )
  )
 )
theorem F47_ok {v_1 : (Option Addr)} {t_2 : Int} {id_3 : Int} {w : World} {R : Int → World → Prop} (h : F47 v_1 t_2 id_3 w R) : cl Tryz.prog 47 [.pointer (v_1), .int .i64 (t_2), .int .i64 (id_3)] (tInt .i64) w R := by
 unfold F47 at h
 refine calls_start 64 Tryz.func47 rfl rfl (Nat.le_of_ble_eq_true rfl) <| wp_seq <| wp_text [0] rfl <| za 6 (.int .i64 ((0 : Int))) rfl rfl <| ro_nil <| wp_seq <| wp_seq <| wp_text [0, 1, 2, 3, 4, 5] rfl <| zm 9 (.int .i64 (t_2)) rfl rfl <| rv 10 rfl rfl rfl (q_lss (a := t_2) (b := (1 : Int)) rfl rfl rfl) <| zm 11 (.bool ((decide (t_2 < (1 : Int))))) rfl rfl <| ro_gval (g := (!(decide (t_2 < (1 : Int))))) (d := (some 12)) rfl (.no 2 11 true (decide (t_2 < (1 : Int))) rfl rfl rfl rfl) rfl (fun hg => q_move (v := .int .i64 (t_2)) rfl rfl) ?_
 refine ro_gval (g := (!(decide (t_2 < (1 : Int))))) (d := (some 13)) rfl (.no 2 11 true (decide (t_2 < (1 : Int))) rfl rfl rfl rfl) rfl (fun hg => q_gtr (k := .i64) (a := t_2) (b := (1125899906842624 : Int)) rfl (gvb_yes hg) rfl) <| rv 14 rfl rfl rfl (q_pickGF (a := (decide (t_2 < (1 : Int)))) (c := (decide (t_2 > (1125899906842624 : Int)))) rfl rfl rfl rfl) <| ro_nil <| zi h rfl (fun _ h => ?_) fun _ h => ?_
 ·refine wp_seq <| wp_text [0] rfl <| za 6 (.int .i64 ((151 : Int))) rfl rfl <| ro_nil <| wp_ret ?_
  exact zr1 h rfl rfl
 ·refine wp_skip <| wp_seq <| wp_text [0, 1, 2, 3, 4, 5, 6, 7] rfl <| zm 15 (.pointer (v_1)) rfl rfl ?_
  obtain ⟨a4, ha4, h⟩ := h
  refine zn 16 ha4 rfl rfl <| zf 17 a4 5 Tryz.underlying101 ok99 rfl rfl rfl ?_
  obtain ⟨x5, hx5, h⟩ := h
  refine zl 18 hx5 ok99 rfl rfl <| zm 19 (.int .i64 (id_3)) rfl rfl ?_
  obtain ⟨m6, hm6, h⟩ := h
  refine rv 20 rfl rfl rfl (q_lookup (T := T156) (r := x5) (key := id_3) (u := m6) (z := Z156) rfl Tryz.underlying99 Tryz.underlying3 (inf157) rfl rfl hm6) ?_
  obtain ⟨a7, w8, ha7, hw8, h⟩ := nw_open h
  refine rv 7 rfl rfl rfl (q_alloc (u := Z156) rfl ok157 inf157 ha7 hw8) ?_
  obtain ⟨w9, hw9, hrw9, h⟩ := st_open h
  refine ro_skip (d := none) rfl (.free rfl) rfl (q_store (T := T156) (u := (m6.getD Z156)) (a := a7) rfl ok157 rfl rfl hrw9 hw9) <| ro_nil <| wp_seq <| wp_seq <| wp_text [0, 1] rfl <| zf 21 a7 0 Tryz.underlying157 ok105 rfl rfl rfl ?_
  obtain ⟨x10, hx10, h⟩ := h
  refine zl 22 hx10 ok105 rfl rfl <| ro_nil <| wp_block <| wp_seq <| wp_text [0, 1] rfl <| rv 24 rfl rfl rfl (q_eql (a := x10) (b := (2 : Int)) rfl rfl rfl) <| za 23 (.bool ((x10 == (2 : Int)))) rfl rfl <| ro_nil <| zi h rfl (fun _ h => ?_) fun _ h => ?_
  ·refine wp_seq <| wp_seq <| wp_text [0, 1, 2, 3] rfl <| zf 25 a7 1 Tryz.underlying157 ok2 rfl rfl rfl ?_
   obtain ⟨x11, hx11, h⟩ := h
   refine zl 26 hx11 ok2 rfl rfl <| zm 27 (.int .i64 (t_2)) rfl rfl <| rv 28 rfl rfl rfl (q_neq (a := x11) (b := t_2) rfl rfl rfl) <| ro_nil <| zi h rfl (fun _ h => ?_) fun _ h => ?_
   ·refine wp_seq <| wp_text [0] rfl <| za 6 (.int .i64 ((157 : Int))) rfl rfl <| ro_nil <| wp_ret ?_
    exact zr1 h rfl rfl
   ·refine wp_skip <| wp_seq <| wp_text [0] rfl <| za 6 (.int .i64 ((0 : Int))) rfl rfl <| ro_nil <| wp_ret ?_
    exact zr1 h rfl rfl
  ·refine wp_seq <| wp_text [0, 1] rfl <| rv 30 rfl rfl rfl (q_eql (a := x10) (b := (1 : Int)) rfl rfl rfl) <| za 29 (.bool ((x10 == (1 : Int)))) rfl rfl <| ro_nil <| zi h rfl (fun _ h => ?_) fun _ h => ?_
   ·refine wp_skip <| wp_seq <| wp_text [0, 1, 2, 3, 4, 5, 6, 7] rfl <| zm 31 (.pointer (v_1)) rfl rfl <| zn 32 ha4 rfl rfl <| zf 33 a4 3 Tryz.underlying101 ok97 rfl rfl rfl ?_
    obtain ⟨x13, hx13, h⟩ := h
    refine zl 34 hx13 ok97 rfl rfl <| zm 35 (.int .i64 (id_3)) rfl rfl ?_
    obtain ⟨m14, hm14, h⟩ := h
    refine rv 36 rfl rfl rfl (q_lookup (T := T150) (r := x13) (key := id_3) (u := m14) (z := Z150) rfl Tryz.underlying97 Tryz.underlying3 (inf151) rfl rfl hm14) ?_
    obtain ⟨a15, w16, ha15, hw16, h⟩ := nw_open h
    refine rv 8 rfl rfl rfl (q_alloc (u := Z150) rfl ok151 inf151 ha15 hw16) ?_
    obtain ⟨w17, hw17, hrw17, h⟩ := st_open h
    refine ro_skip (d := none) rfl (.free rfl) rfl (q_store (T := T150) (u := (m14.getD Z150)) (a := a15) rfl ok151 rfl rfl hrw17 hw17) <| ro_nil <| wp_seq <| wp_seq <| wp_text [0, 1, 2, 3] rfl <| zm 37 (.int .i64 (t_2)) rfl rfl <| zf 38 a15 4 Tryz.underlying151 ok2 rfl rfl rfl ?_
    obtain ⟨x18, hx18, h⟩ := h
    refine zl 39 hx18 ok2 rfl rfl <| rv 40 rfl rfl rfl (q_lss (a := t_2) (b := x18) rfl rfl rfl) <| ro_nil <| zi h rfl (fun _ h => ?_) fun _ h => ?_
    ·refine wp_seq <| wp_text [0] rfl <| za 6 (.int .i64 ((152 : Int))) rfl rfl <| ro_nil <| wp_ret ?_
     exact zr1 h rfl rfl
    ·refine wp_skip <| wp_seq ?_
     obtain ⟨w19, hw19, h⟩ := dr_open h
     refine wp_drawn 10 mixed rfl (by kernel_rfl) (by intro c a d v w h; cases d <;> exact h) hw19 (fun hD => ?_)
     refine ym 0 41 (.pointer (v_1)) hD rfl rfl <| yn 1 42 ha4 hD rfl rfl <| yf 2 43 a4 0 Tryz.underlying101 ok96 hD rfl rfl rfl <| yf 3 44 (a4.add 0) 0 Tryz.underlying96 ok94 hD rfl rfl rfl <| ym 5 46 (.int .i64 (t_2)) hD rfl rfl <| ym 6 47 (.pointer (v_1)) hD rfl rfl ?_
     obtain ⟨x20, hx20, h⟩ := h
     refine yr 4 45 hx20 ok94 hD rfl rfl ?_
     obtain ⟨x21, hx21, h⟩ := h
     refine yr 7 48 hx21 ok151 hD rfl rfl <| rd_one (i := 8) (by kernel_rfl) <| po_wp rfl (.free rfl) (wp_cl (d := (some 49)) rfl (q_call (k := 83) (l := [.pointer (v_1), T150.enc (x21)]) rfl ent83 rfl) h ?_)
     intro r23 w22 h
     obtain ⟨hk24, h⟩ := h
     refine ⟨(hk_wait (by kernel_rfl) (hk_keep (fun _ => hk24) hk_nil)), ?_⟩
     refine rd_one (i := 9) (by kernel_rfl) <| po_wp rfl (.free rfl) (wp_cl (d := (some 50)) rfl (q_call (k := 55) (l := [.pointer (x20), .int .i64 (t_2), tSlc.enc (r23)]) rfl ent55 rfl) h ?_)
     intro r26 w25 h
     obtain ⟨hk27, h⟩ := h
     refine ⟨(hk_keep (fun _ => hk27) (hk_wait (by kernel_rfl) hk_nil)), ?_⟩
     refine rd_nil (by kernel_rfl) <| wp_seq <| wp_text [0, 1, 2] rfl <| zm 51 (.pointer (v_1)) rfl rfl ?_
     obtain ⟨x28, hx28, h⟩ := h
     refine zl 52 hx28 ok151 rfl rfl <| zc ent84 rfl rfl h fun r30 w29 h => ro_nil <| wp_seq <| wp_text [0, 1, 2, 3, 4, 5, 6, 7] rfl <| zm 54 (.pointer (v_1)) rfl rfl <| zn 55 ha4 rfl rfl <| zf 56 a4 5 Tryz.underlying101 ok99 rfl rfl rfl ?_
     obtain ⟨x31, hx31, h⟩ := h
     refine zl 57 hx31 ok99 rfl rfl <| zm 58 (.int .i64 (id_3)) rfl rfl <| zm 59 (.int .i64 (t_2)) rfl rfl <| rv 60 rfl rfl rfl (q_build157_0_1 (v0 := (2 : Int)) (v1 := t_2) rfl rfl rfl) <| ro_wp rfl (.free rfl) (wp_mput (T := T156) (r := x31) (key := id_3) (v := (⟨(2 : Int), t_2⟩ : S156)) (d := none) rfl (.inl rfl) Tryz.underlying99 Tryz.underlying3 rfl rfl rfl h ?_)
     intro w32 h
     refine ro_nil <| wp_seq <| wp_text [0, 1, 2] rfl <| zm 61 (.pointer (v_1)) rfl rfl <| zm 62 (.int .i64 (t_2)) rfl rfl <| zc ent56 rfl rfl h fun r34 w33 h => ro_nil <| wp_seq <| wp_text [0] rfl <| za 6 (.int .i64 ((0 : Int))) rfl rfl <| ro_nil <| wp_ret ?_
     exact zr1 h rfl rfl
   ·refine wp_seq <| wp_text [0] rfl <| za 6 (.int .i64 ((163 : Int))) rfl rfl <| ro_nil <| wp_ret ?_
    exact zr1 h rfl rfl
def F48_j1 (id_2 : Int) (a3 : Addr) (w13 : World) (R : Int → World → Prop) : Prop :=
 ex (RdAt tMap (a3.add 5) w13) fun x14 =>
 mput T156 .i64 x14 id_2 (⟨(3 : Int), (0 : Int)⟩ : S156) w13 fun w15 =>
 R (0 : Int) w15
def F48 (v_1 : (Option Addr)) (id_2 : Int) (w : World) (R : Int → World → Prop) : Prop :=
 ex (NC v_1) fun a3 =>
 ex (RdAt tMap (a3.add 5) w) fun x4 =>
 ex (MapGet T156 .i64 x4 id_2 w) fun m5 =>
 nw 157 T156 Z156 w fun a6 w7 =>
 st T156 a6 (((m5.getD Z156, m5.isSome)).1) w7 fun w8 =>
 if (decide (id_2 < (1 : Int))) = true then (
  R (156 : Int) w8
 ) else (
  ex (RdAt (tInt .i64) (a6.add 0) w8) fun x9 =>
  if (x9 == (2 : Int)) = true then (
   R (157 : Int) w8
  ) else (
   ex (fun x => (!(((m5.getD Z156, m5.isSome)).2)) = true → (NC v_1) x) fun a10 =>
   ex (fun x => (!(((m5.getD Z156, m5.isSome)).2)) = true → (RdAt tMap (a10.add 5) w8) x) fun x11 =>
   ex (fun x => (!(((m5.getD Z156, m5.isSome)).2)) = true → (MapLen x11 w8) x) fun l12 =>
   if ((!(((m5.getD Z156, m5.isSome)).2)) && (decide ((l12 : Int) ≥ (5000 : Int)))) = true then (
    R (158 : Int) w8
   ) else (
    ex (RdAt tMap (a3.add 3) w8) fun x16 =>
    ex (MapGet T150 .i64 x16 id_2 w8) fun m17 =>
    nw 151 T150 Z150 w8 fun a18 w19 =>
    st T150 a18 (((m17.getD Z150, m17.isSome)).1) w19 fun w20 =>
    if ((m17.getD Z150, m17.isSome)).2 = true then (
     ex (RdAt T150 a18 w20) fun x21 =>
     cl Tryz.prog 84 [.pointer (v_1), T150.enc (x21)] tUnit w20 fun r23 w22 =>
     F48_j1 id_2 a3 w22 R
    ) else (
     F48_j1 id_2 a3 w20 R
    )
   )
  )
 )
theorem F48_ok {v_1 : (Option Addr)} {id_2 : Int} {w : World} {R : Int → World → Prop} (h : F48 v_1 id_2 w R) : cl Tryz.prog 48 [.pointer (v_1), .int .i64 (id_2)] (tInt .i64) w R := by
 unfold F48 at h
 refine calls_start 55 Tryz.func48 rfl rfl (Nat.le_of_ble_eq_true rfl) <| wp_seq <| wp_text [0] rfl <| za 4 (.int .i64 ((0 : Int))) rfl rfl <| ro_nil <| wp_seq <| wp_text [0, 1, 2, 3, 4, 5, 6, 7, 8, 9, 10, 11] rfl <| zm 10 (.pointer (v_1)) rfl rfl ?_
 obtain ⟨a3, ha3, h⟩ := h
 refine zn 11 ha3 rfl rfl <| zf 12 a3 5 Tryz.underlying101 ok99 rfl rfl rfl ?_
 obtain ⟨x4, hx4, h⟩ := h
 refine zl 13 hx4 ok99 rfl rfl <| zm 14 (.int .i64 (id_2)) rfl rfl ?_
 obtain ⟨m5, hm5, h⟩ := h
 refine rv 15 rfl rfl rfl (q_lookup2 (T := T156) (r := x4) (key := id_2) (u := m5) (z := Z156) rfl Tryz.underlying99 Tryz.underlying3 (inf157) rfl rfl hm5) <| zm 9 ((tTup2 T156 tBool).enc (((m5.getD Z156, m5.isSome)))) rfl rfl <| ze 16 (T156.enc (((m5.getD Z156, m5.isSome)).1)) rfl rfl rfl <| ze 17 (.bool (((m5.getD Z156, m5.isSome)).2)) rfl rfl rfl ?_
 obtain ⟨a6, w7, ha6, hw7, h⟩ := nw_open h
 refine rv 5 rfl rfl rfl (q_alloc (u := Z156) rfl ok157 inf157 ha6 hw7) ?_
 obtain ⟨w8, hw8, hrw8, h⟩ := st_open h
 refine ro_skip (d := none) rfl (.free rfl) rfl (q_store (T := T156) (u := ((m5.getD Z156, m5.isSome)).1) (a := a6) rfl ok157 rfl rfl hrw8 hw8) <| za 6 (.bool (((m5.getD Z156, m5.isSome)).2)) rfl rfl <| ro_nil <| wp_seq <| wp_block <| wp_seq <| wp_text [0, 1, 2] rfl <| zm 19 (.int .i64 (id_2)) rfl rfl <| rv 20 rfl rfl rfl (q_lss (a := id_2) (b := (1 : Int)) rfl rfl rfl) <| za 18 (.bool ((decide (id_2 < (1 : Int))))) rfl rfl <| ro_nil <| zi h rfl (fun _ h => ?_) fun _ h => ?_
 ·refine wp_seq <| wp_text [0] rfl <| za 4 (.int .i64 ((156 : Int))) rfl rfl <| ro_nil <| wp_ret ?_
  exact zr1 h rfl rfl
 ·refine wp_seq <| wp_text [0, 1, 2, 3] rfl <| zf 22 a6 0 Tryz.underlying157 ok105 rfl rfl rfl ?_
  obtain ⟨x9, hx9, h⟩ := h
  refine zl 23 hx9 ok105 rfl rfl <| rv 24 rfl rfl rfl (q_eql (a := x9) (b := (2 : Int)) rfl rfl rfl) <| za 21 (.bool ((x9 == (2 : Int)))) rfl rfl <| ro_nil <| zi h rfl (fun _ h => ?_) fun _ h => ?_
  ·refine wp_seq <| wp_text [0] rfl <| za 4 (.int .i64 ((157 : Int))) rfl rfl <| ro_nil <| wp_ret ?_
   exact zr1 h rfl rfl
  ·refine wp_seq <| wp_text [0, 1, 2, 3, 4, 5, 6, 7, 8, 9, 10] rfl <| zm 26 (.bool (((m5.getD Z156, m5.isSome)).2)) rfl rfl <| rv 27 rfl rfl rfl (q_not (b := ((m5.getD Z156, m5.isSome)).2) rfl rfl) <| zm 28 (.bool ((!(((m5.getD Z156, m5.isSome)).2)))) rfl rfl <| ro_gval (g := (!(((m5.getD Z156, m5.isSome)).2))) (d := (some 29)) rfl (.yes 2 28 true (!(((m5.getD Z156, m5.isSome)).2)) rfl rfl rfl rfl) rfl (fun hg => q_move (v := .pointer (v_1)) rfl rfl) ?_
   obtain ⟨a10, ha10, h⟩ := h
   refine ro_gval (g := (!(((m5.getD Z156, m5.isSome)).2))) (d := (some 30)) rfl (.yes 2 28 true (!(((m5.getD Z156, m5.isSome)).2)) rfl rfl rfl rfl) rfl (fun hg => q_nilCheck (a := a10) rfl ((gvb_yes hg).trans (congrArg Value.pointer (ha10 hg)))) <| ro_gval (g := (!(((m5.getD Z156, m5.isSome)).2))) (d := (some 31)) rfl (.yes 2 28 true (!(((m5.getD Z156, m5.isSome)).2)) rfl rfl rfl rfl) rfl (fun hg => q_fieldAddr (a := a10) (off := 5) rfl Tryz.underlying101 rfl rfl ok99 (by decide) (gvb_yes hg)) ?_
   obtain ⟨x11, hx11, h⟩ := h
   refine ro_gval (g := (!(((m5.getD Z156, m5.isSome)).2))) (d := (some 32)) rfl (.yes 2 28 true (!(((m5.getD Z156, m5.isSome)).2)) rfl rfl rfl rfl) rfl (fun hg => q_load (T := tMap) (u := x11) (a := (a10.add 5)) rfl ok99 (gvb_yes hg) (hx11 hg)) ?_
   obtain ⟨l12, hl12, h⟩ := h
   refine ro_gval (g := (!(((m5.getD Z156, m5.isSome)).2))) (d := (some 33)) rfl (.yes 2 28 true (!(((m5.getD Z156, m5.isSome)).2)) rfl rfl rfl rfl) rfl (fun hg => q_lenM (r := x11) (l := l12) rfl Tryz.underlying99 (gvb_yes hg) (hl12 hg)) <| ro_gval (g := (!(((m5.getD Z156, m5.isSome)).2))) (d := (some 34)) rfl (.yes 2 28 true (!(((m5.getD Z156, m5.isSome)).2)) rfl rfl rfl rfl) rfl (fun hg => q_geq (k := .i64) (a := (l12 : Int)) (b := (5000 : Int)) rfl (gvb_yes hg) rfl) <| rv 35 rfl rfl rfl (q_pickGT (a := (!(((m5.getD Z156, m5.isSome)).2))) (b := (decide ((l12 : Int) ≥ (5000 : Int)))) rfl rfl rfl rfl) <| za 25 (.bool (((!(((m5.getD Z156, m5.isSome)).2)) && (decide ((l12 : Int) ≥ (5000 : Int)))))) rfl rfl <| ro_nil <| zi h rfl (fun _ h => ?_) fun _ h => ?_
   ·refine wp_seq <| wp_text [0] rfl <| za 4 (.int .i64 ((158 : Int))) rfl rfl <| ro_nil <| wp_ret ?_
    exact zr1 h rfl rfl
   ·refine wp_skip <| seq_join (σ := Unit) (J := fun (s : Unit) w => F48_j1 id_2 a3 w R) (fr := fun g (s : Unit) => upd (upd (g) 0 (.pointer (v_1))) 1 (.int .i64 (id_2))) ?_ ?_
    ·rintro ⟨⟩ g w13 h
     unfold F48_j1 at h
     refine wp_seq <| wp_text [0, 1, 2, 3, 4, 5, 6] rfl <| zm 49 (.pointer (v_1)) rfl rfl <| zn 50 ha3 rfl rfl <| zf 51 a3 5 Tryz.underlying101 ok99 rfl rfl rfl ?_
     obtain ⟨x14, hx14, h⟩ := h
     refine zl 52 hx14 ok99 rfl rfl <| zm 53 (.int .i64 (id_2)) rfl rfl <| rv 54 rfl rfl rfl (q_build157_0 (v0 := (3 : Int)) rfl rfl) <| ro_wp rfl (.free rfl) (wp_mput (T := T156) (r := x14) (key := id_2) (v := (⟨(3 : Int), (0 : Int)⟩ : S156)) (d := none) rfl (.inl rfl) Tryz.underlying99 Tryz.underlying3 rfl rfl rfl h ?_)
     intro w15 h
     refine ro_nil <| wp_seq <| wp_text [0] rfl <| za 4 (.int .i64 ((0 : Int))) rfl rfl <| ro_nil <| wp_ret ?_
     exact zr1 h rfl rfl
    ·refine wp_seq <| wp_text [0, 1, 2, 3, 4, 5, 6, 7, 8, 9, 10, 11] rfl <| zm 37 (.pointer (v_1)) rfl rfl <| zn 38 ha3 rfl rfl <| zf 39 a3 3 Tryz.underlying101 ok97 rfl rfl rfl ?_
     obtain ⟨x16, hx16, h⟩ := h
     refine zl 40 hx16 ok97 rfl rfl <| zm 41 (.int .i64 (id_2)) rfl rfl ?_
     obtain ⟨m17, hm17, h⟩ := h
     refine rv 42 rfl rfl rfl (q_lookup2 (T := T150) (r := x16) (key := id_2) (u := m17) (z := Z150) rfl Tryz.underlying97 Tryz.underlying3 (inf151) rfl rfl hm17) <| zm 36 ((tTup2 T150 tBool).enc (((m17.getD Z150, m17.isSome)))) rfl rfl <| ze 43 (T150.enc (((m17.getD Z150, m17.isSome)).1)) rfl rfl rfl <| ze 44 (.bool (((m17.getD Z150, m17.isSome)).2)) rfl rfl rfl ?_
     obtain ⟨a18, w19, ha18, hw19, h⟩ := nw_open h
     refine rv 7 rfl rfl rfl (q_alloc (u := Z150) rfl ok151 inf151 ha18 hw19) ?_
     obtain ⟨w20, hw20, hrw20, h⟩ := st_open h
     refine ro_skip (d := none) rfl (.free rfl) rfl (q_store (T := T150) (u := ((m17.getD Z150, m17.isSome)).1) (a := a18) rfl ok151 rfl rfl hrw20 hw20) <| za 8 (.bool (((m17.getD Z150, m17.isSome)).2)) rfl rfl <| ro_nil <| wp_seq <| wp_text [0] rfl <| zm 45 (.bool (((m17.getD Z150, m17.isSome)).2)) rfl rfl <| ro_nil <| zi h rfl (fun _ h => ?_) fun _ h => ?_
     ·refine wp_text [0, 1, 2] rfl <| zm 46 (.pointer (v_1)) rfl rfl ?_
      obtain ⟨x21, hx21, h⟩ := h
      refine zl 47 hx21 ok151 rfl rfl <| zc ent84 rfl rfl h fun r23 w22 h => ro_nil ?_
      exact ⟨(), _, arr (upd_step (upd_step rfl rfl) rfl), h⟩
     ·refine wp_skip ?_
      exact ⟨(), _, arr (upd_step (upd_step rfl rfl) rfl), h⟩
def F49_l1 (v_1 : (Option Addr)) (t_2 : Int) (a5 : Addr) (a8 : Addr) (w9 : World) (K10 : Unit → World → Prop) (R : Int → World → Prop) : Prop :=
 nxt a8 w9 fun q12 w11 =>
 if (Option.isSome q12) = true then (
  ex (Ent T150 .i64 a8 w11) fun e13 =>
  nw 151 T150 Z150 w11 fun a14 w15 =>
  st T150 a14 e13.2 w15 fun w16 =>
  ex (RdAt (tInt .i64) (a14.add 4) w16) fun x17 =>
  if (decide (x17 ≤ t_2)) = true then (
   R (160 : Int) w16
  ) else (
   K10 () w16
  )
 ) else (
  ex (RdAt tPtr ((a5.add 0).add 0) w11) fun x19 =>
  cl Tryz.prog 86 [.pointer (x19), .int .i64 (t_2)] (tInt .i64) w11 fun r21 w20 =>
  cl Tryz.prog 56 [.pointer (v_1), .int .i64 (t_2)] tUnit w20 fun r23 w22 =>
  R (0 : Int) w22
 )
def F49 (v_1 : (Option Addr)) (t_2 : Int) (w : World) (R : Int → World → Prop) : Prop :=
 cl Tryz.prog 85 [.int .i64 (t_2)] tBool w fun r4 w3 =>
 if (!r4) = true then (
  R (151 : Int) w3
 ) else (
  ex (NC v_1) fun a5 =>
  ex (RdAt tMap (a5.add 3) w3) fun x6 =>
  rng x6 w3 fun a8 w7 =>
  lp (fun (s : Unit) w K => F49_l1 v_1 t_2 a5 a8 w K R) () w7
 )
theorem F49_ok {v_1 : (Option Addr)} {t_2 : Int} {w : World} {R : Int → World → Prop} (h : F49 v_1 t_2 w R) : cl Tryz.prog 49 [.pointer (v_1), .int .i64 (t_2)] (tInt .i64) w R := by
 unfold F49 at h
 refine calls_start 33 Tryz.func49 rfl rfl (Nat.le_of_ble_eq_true rfl) <| wp_seq <| wp_text [0] rfl <| za 4 (.int .i64 ((0 : Int))) rfl rfl <| ro_nil <| wp_seq <| wp_seq <| wp_text [0, 1, 2] rfl <| zm 7 (.int .i64 (t_2)) rfl rfl <| zc ent85 rfl rfl h fun r4 w3 h => rv 9 rfl rfl rfl (q_not (b := r4) rfl rfl) <| ro_nil ?_
 refine zi h rfl (fun _ h => ?_) fun _ h => ?_
 ·refine wp_seq <| wp_text [0] rfl <| za 4 (.int .i64 ((151 : Int))) rfl rfl <| ro_nil <| wp_ret ?_
  exact zr1 h rfl rfl
 ·refine wp_skip <| wp_seq <| wp_seq <| wp_text [0, 1, 2, 3, 4] rfl <| zm 10 (.pointer (v_1)) rfl rfl ?_
  obtain ⟨a5, ha5, h⟩ := h
  refine zn 11 ha5 rfl rfl <| zf 12 a5 3 Tryz.underlying101 ok97 rfl rfl rfl ?_
  obtain ⟨x6, hx6, h⟩ := h
  refine zl 13 hx6 ok97 rfl rfl <| ro_wp rfl (.free rfl) (wp_rng (r := x6) (d := (some 14)) rfl rfl Tryz.underlying97 rfl h ?_)
  intro a8 w7 h
  refine ro_nil <| wp_block <| loop_at (σ := Unit) (fr := fun g (s : Unit) => upd (upd (upd (g) 0 (.pointer (v_1))) 1 (.int .i64 (t_2))) 14 (.pointer (some a8))) (s0 := ()) (upd_step (upd_step (upd_step rfl rfl) rfl) rfl) h ?_
  rintro ⟨⟩ g w9 K10 h
  unfold F49_l1 at h
  refine wp_seq <| wp_text [0, 1] rfl <| ro_wp rfl (.free rfl) (wp_nxt (a := a8) (d := (some 15)) rfl rfl rfl h ?_)
  intro q12 w11 h
  refine rv 16 rfl rfl rfl (q_extractN (q := q12) rfl rfl) <| ro_nil <| wp_seq <| zi h rfl (fun _ h => ?_) fun _ h => ?_
  ·refine wp_skip <| wp_block <| wp_seq <| wp_text [0, 1, 2, 3] rfl ?_
   obtain ⟨e13, he13, h⟩ := h
   refine rv 17 rfl rfl rfl (q_entry (T := T150) (p := e13) (a := a8) rfl rfl he13) <| ze 18 (T150.enc (e13.2)) rfl rfl rfl ?_
   obtain ⟨a14, w15, ha14, hw15, h⟩ := nw_open h
   refine rv 6 rfl rfl rfl (q_alloc (u := Z150) rfl ok151 inf151 ha14 hw15) ?_
   obtain ⟨w16, hw16, hrw16, h⟩ := st_open h
   refine ro_skip (d := none) rfl (.free rfl) rfl (q_store (T := T150) (u := e13.2) (a := a14) rfl ok151 rfl rfl hrw16 hw16) <| ro_nil <| wp_seq <| wp_text [0, 1, 2, 3] rfl <| zf 19 a14 4 Tryz.underlying151 ok2 rfl rfl rfl ?_
   obtain ⟨x17, hx17, h⟩ := h
   refine zl 20 hx17 ok2 rfl rfl <| zm 21 (.int .i64 (t_2)) rfl rfl <| rv 22 rfl rfl rfl (q_leq (a := x17) (b := t_2) rfl rfl rfl) <| ro_nil <| zi h rfl (fun _ h => ?_) fun _ h => ?_
   ·refine wp_seq <| wp_text [0] rfl <| za 4 (.int .i64 ((160 : Int))) rfl rfl <| ro_nil <| wp_ret ?_
    exact zr1 h rfl rfl
   ·refine wp_skip ?_
    exact ⟨(), _, arr (upd_step (upd_step (upd_step rfl rfl) rfl) rfl), h⟩
  ·refine wp_exit <| wp_seq <| wp_text [0, 1, 2, 3, 4, 5, 6] rfl <| zm 23 (.pointer (v_1)) rfl rfl <| zn 24 ha5 rfl rfl <| zf 25 a5 0 Tryz.underlying101 ok96 rfl rfl rfl <| zf 26 (a5.add 0) 0 Tryz.underlying96 ok94 rfl rfl rfl ?_
   obtain ⟨x19, hx19, h⟩ := h
   refine zl 27 hx19 ok94 rfl rfl <| zm 28 (.int .i64 (t_2)) rfl rfl <| zc ent86 rfl rfl h fun r21 w20 h => ro_nil <| wp_seq <| wp_text [0, 1, 2] rfl <| zm 30 (.pointer (v_1)) rfl rfl <| zm 31 (.int .i64 (t_2)) rfl rfl <| zc ent56 rfl rfl h fun r23 w22 h => ro_nil <| wp_seq <| wp_text [0] rfl ?_
   refine za 4 (.int .i64 ((0 : Int))) rfl rfl <| ro_nil <| wp_ret ?_
   exact zr1 h rfl rfl
def F50 (v_1 : (Option Addr)) (mark_2 : Int) (w : World) (R : Int → World → Prop) : Prop :=
 ex (NC v_1) fun a3 =>
 ex (RdAt tPtr ((a3.add 0).add 0) w) fun x4 =>
 cl Tryz.prog 87 [.pointer (x4), .int .i64 (mark_2)] (tInt .i64) w fun r6 w5 =>
 cl Tryz.prog 81 [.int .i64 (r6)] (tInt .i64) w5 fun r8 w7 =>
 R r8 w7
theorem F50_ok {v_1 : (Option Addr)} {mark_2 : Int} {w : World} {R : Int → World → Prop} (h : F50 v_1 mark_2 w R) : cl Tryz.prog 50 [.pointer (v_1), .int .i64 (mark_2)] (tInt .i64) w R := by
 unfold F50 at h
 refine calls_start 13 Tryz.func50 rfl rfl (Nat.le_of_ble_eq_true rfl) <| wp_seq <| wp_text [0] rfl <| za 4 (.int .i64 ((0 : Int))) rfl rfl <| ro_nil <| wp_seq <| wp_text [0, 1, 2, 3, 4, 5, 6, 7, 8] rfl <| zm 5 (.pointer (v_1)) rfl rfl ?_
 obtain ⟨a3, ha3, h⟩ := h
 refine zn 6 ha3 rfl rfl <| zf 7 a3 0 Tryz.underlying101 ok96 rfl rfl rfl <| zf 8 (a3.add 0) 0 Tryz.underlying96 ok94 rfl rfl rfl ?_
 obtain ⟨x4, hx4, h⟩ := h
 refine zl 9 hx4 ok94 rfl rfl <| zm 10 (.int .i64 (mark_2)) rfl rfl <| zc ent87 rfl rfl h fun r6 w5 h => zc ent81 rfl rfl h fun r8 w7 h => za 4 (.int .i64 (r8)) rfl rfl <| ro_nil <| wp_ret ?_
 exact zr1 h rfl rfl
def F51 (v_1 : (Option Addr)) (t_2 : Int) (w : World) (R : Int → World → Prop) : Prop :=
 if ((decide (t_2 < (1 : Int))) || (decide (t_2 > (1125899906842624 : Int)))) = true then (
  R (151 : Int) w
 ) else (
  ex (NC v_1) fun a3 =>
  ex (RdAt (tInt .i64) (a3.add 2) w) fun x4 =>
  if (decide (t_2 ≤ x4)) = true then (
   R (152 : Int) w
  ) else (
   R (0 : Int) w
  )
 )
theorem F51_ok {v_1 : (Option Addr)} {t_2 : Int} {w : World} {R : Int → World → Prop} (h : F51 v_1 t_2 w R) : cl Tryz.prog 51 [.pointer (v_1), .int .i64 (t_2)] (tInt .i64) w R := by
 unfold F51 at h
 refine calls_start 19 Tryz.func51 rfl rfl (Nat.le_of_ble_eq_true rfl) <| wp_seq <| wp_text [0] rfl <| za 4 (.int .i64 ((0 : Int))) rfl rfl <| ro_nil <| wp_seq <| wp_block <| wp_seq <| wp_text [0, 1, 2, 3, 4, 5, 6] rfl <| zm 6 (.int .i64 (t_2)) rfl rfl <| rv 7 rfl rfl rfl (q_lss (a := t_2) (b := (1 : Int)) rfl rfl rfl) <| zm 8 (.bool ((decide (t_2 < (1 : Int))))) rfl rfl ?_
 refine ro_gval (g := (!(decide (t_2 < (1 : Int))))) (d := (some 9)) rfl (.no 2 8 true (decide (t_2 < (1 : Int))) rfl rfl rfl rfl) rfl (fun hg => q_move (v := .int .i64 (t_2)) rfl rfl) <| ro_gval (g := (!(decide (t_2 < (1 : Int))))) (d := (some 10)) rfl (.no 2 8 true (decide (t_2 < (1 : Int))) rfl rfl rfl rfl) rfl (fun hg => q_gtr (k := .i64) (a := t_2) (b := (1125899906842624 : Int)) rfl (gvb_yes hg) rfl) <| rv 11 rfl rfl rfl (q_pickGF (a := (decide (t_2 < (1 : Int)))) (c := (decide (t_2 > (1125899906842624 : Int)))) rfl rfl rfl rfl) <| za 5 (.bool (((decide (t_2 < (1 : Int))) || (decide (t_2 > (1125899906842624 : Int)))))) rfl rfl <| ro_nil <| zi h rfl (fun _ h => ?_) fun _ h => ?_
 ·refine wp_seq <| wp_text [0] rfl <| za 4 (.int .i64 ((151 : Int))) rfl rfl <| ro_nil <| wp_ret ?_
  exact zr1 h rfl rfl
 ·refine wp_seq <| wp_text [0, 1, 2, 3, 4, 5, 6] rfl <| zm 13 (.int .i64 (t_2)) rfl rfl <| zm 14 (.pointer (v_1)) rfl rfl ?_
  obtain ⟨a3, ha3, h⟩ := h
  refine zn 15 ha3 rfl rfl <| zf 16 a3 2 Tryz.underlying101 ok2 rfl rfl rfl ?_
  obtain ⟨x4, hx4, h⟩ := h
  refine zl 17 hx4 ok2 rfl rfl <| rv 18 rfl rfl rfl (q_leq (a := t_2) (b := x4) rfl rfl rfl) <| za 12 (.bool ((decide (t_2 ≤ x4)))) rfl rfl <| ro_nil <| zi h rfl (fun _ h => ?_) fun _ h => ?_
  ·refine wp_seq <| wp_text [0] rfl <| za 4 (.int .i64 ((152 : Int))) rfl rfl <| ro_nil <| wp_ret ?_
   exact zr1 h rfl rfl
  ·refine wp_skip <| wp_seq <| wp_text [0] rfl <| za 4 (.int .i64 ((0 : Int))) rfl rfl <| ro_nil <| wp_ret ?_
   exact zr1 h rfl rfl
def F52 (s_1 : (Option Addr)) (key_2 : Int) (w : World) (R : (S117 × Bool) → World → Prop) : Prop :=
 nw 118 T117 Z117 w fun a3 w4 =>
 ex (NC s_1) fun a5 =>
 ex (RdAt tMap (a5.add 0) w4) fun x6 =>
 ex (MapGet tPtr .i64 x6 key_2 w4) fun m7 =>
 if (!(((m7.getD (none : Option Addr), m7.isSome)).2)) = true then (
  st T117 a3 (⟨(0 : Int), (0 : Int)⟩ : S117) w4 fun w8 =>
  ex (RdAt T117 a3 w8) fun x9 =>
  R (x9, false) w8
 ) else (
  cl Tryz.prog 88 [.pointer (((m7.getD (none : Option Addr), m7.isSome)).1)] (tTup2 T117 tBool) w4 fun r11 w10 =>
  st T117 a3 r11.1 w10 fun w12 =>
  ex (RdAt T117 a3 w12) fun x13 =>
  R (x13, r11.2) w12
 )
theorem F52_ok {s_1 : (Option Addr)} {key_2 : Int} {w : World} {R : (S117 × Bool) → World → Prop} (h : F52 s_1 key_2 w R) : cl Tryz.prog 52 [.pointer (s_1), .int .i64 (key_2)] (tTup2 T117 tBool) w R := by
 unfold F52 at h
 refine calls_start 24 Tryz.func52 rfl rfl (Nat.le_of_ble_eq_true rfl) <| wp_seq <| wp_text [0, 1] rfl ?_
 obtain ⟨a3, w4, ha3, hw4, h⟩ := nw_open h
 refine rv 4 rfl rfl rfl (q_alloc (u := Z117) rfl ok118 inf118 ha3 hw4) <| za 5 (.bool (false)) rfl rfl <| ro_nil <| wp_seq <| wp_text [0, 1, 2, 3, 4, 5, 6, 7, 8, 9, 10] rfl <| zm 9 (.pointer (s_1)) rfl rfl ?_
 obtain ⟨a5, ha5, h⟩ := h
 refine zn 10 ha5 rfl rfl <| zf 11 a5 0 Tryz.underlying169 ok167 rfl rfl rfl ?_
 obtain ⟨x6, hx6, h⟩ := h
 refine zl 12 hx6 ok167 rfl rfl <| zm 13 (.int .i64 (key_2)) rfl rfl ?_
 obtain ⟨m7, hm7, h⟩ := h
 refine rv 14 rfl rfl rfl (q_lookup2 (T := tPtr) (r := x6) (key := key_2) (u := m7) (z := (none : Option Addr)) rfl Tryz.underlying167 Tryz.underlying3 (inf165) rfl rfl hm7) <| zm 8 ((tTup2 tPtr tBool).enc (((m7.getD (none : Option Addr), m7.isSome)))) rfl rfl <| ze 15 (.pointer (((m7.getD (none : Option Addr), m7.isSome)).1)) rfl rfl rfl <| ze 16 (.bool (((m7.getD (none : Option Addr), m7.isSome)).2)) rfl rfl rfl <| za 6 (.pointer (((m7.getD (none : Option Addr), m7.isSome)).1)) rfl rfl <| za 7 (.bool (((m7.getD (none : Option Addr), m7.isSome)).2)) rfl rfl <| ro_nil <| wp_seq <| wp_seq <| wp_text [0, 1] rfl <| zm 17 (.bool (((m7.getD (none : Option Addr), m7.isSome)).2)) rfl rfl <| rv 18 rfl rfl rfl (q_not (b := ((m7.getD (none : Option Addr), m7.isSome)).2) rfl rfl) ?_
 refine ro_nil <| zi h rfl (fun _ h => ?_) fun _ h => ?_
 ·refine wp_seq <| wp_text [0, 1, 2] rfl <| rv 19 rfl rfl rfl (q_build118_  rfl ) ?_
  obtain ⟨w8, hw8, hrw8, h⟩ := st_open h
  refine ro_skip (d := none) rfl (.free rfl) rfl (q_store (T := T117) (u := (⟨(0 : Int), (0 : Int)⟩ : S117)) (a := a3) rfl ok118 rfl rfl hrw8 hw8) <| za 5 (.bool (false)) rfl rfl <| ro_nil <| wp_ret ?_
  obtain ⟨x9, hx9, h⟩ := h
  exact ret_ok rfl (.cons (.cell (T := T117) (u := x9) (a := a3) ok118 rfl hx9) (.cons (.tmp (v := .bool (false)) rfl) .nil)) ⟨(x9, false), rfl, h⟩
 ·refine wp_skip <| wp_seq <| wp_text [0, 1, 2, 3, 4, 5] rfl <| zm 20 (.pointer (((m7.getD (none : Option Addr), m7.isSome)).1)) rfl rfl <| zc ent88 rfl rfl h fun r11 w10 h => ze 22 (T117.enc (r11.1)) rfl rfl rfl <| ze 23 (.bool (r11.2)) rfl rfl rfl ?_
  obtain ⟨w12, hw12, hrw12, h⟩ := st_open h
  refine ro_skip (d := none) rfl (.free rfl) rfl (q_store (T := T117) (u := r11.1) (a := a3) rfl ok118 rfl rfl hrw12 hw12) <| za 5 (.bool (r11.2)) rfl rfl <| ro_nil <| wp_ret ?_
  obtain ⟨x13, hx13, h⟩ := h
  exact ret_ok rfl (.cons (.cell (T := T117) (u := x13) (a := a3) ok118 rfl hx13) (.cons (.tmp (v := .bool (r11.2)) rfl) .nil)) ⟨(x13, r11.2), rfl, h⟩
def F53 (a_1 : Int) (w : World) (R : Bool → World → Prop) : Prop :=
 R ((decide (a_1 ≥ (0 : Int))) && (decide (a_1 < (4096 : Int)))) w
theorem F53_ok {a_1 : Int} {w : World} {R : Bool → World → Prop} (h : F53 a_1 w R) : cl Tryz.prog 53 [.int .i64 (a_1)] tBool w R := by
 unfold F53 at h
 refine calls_start 9 Tryz.func53 rfl rfl (Nat.le_of_ble_eq_true rfl) <| wp_seq <| wp_text [0] rfl <| za 2 (.bool (false)) rfl rfl <| ro_nil <| wp_seq <| wp_text [0, 1, 2, 3, 4, 5, 6] rfl <| zm 3 (.int .i64 (a_1)) rfl rfl <| rv 4 rfl rfl rfl (q_geq (a := a_1) (b := (0 : Int)) rfl rfl rfl) <| zm 5 (.bool ((decide (a_1 ≥ (0 : Int))))) rfl rfl <| ro_gval (g := (decide (a_1 ≥ (0 : Int)))) (d := (some 6)) rfl (.yes 2 5 true (decide (a_1 ≥ (0 : Int))) rfl rfl rfl rfl) rfl (fun hg => q_move (v := .int .i64 (a_1)) rfl rfl) <| ro_gval (g := (decide (a_1 ≥ (0 : Int)))) (d := (some 7)) rfl (.yes 2 5 true (decide (a_1 ≥ (0 : Int))) rfl rfl rfl rfl) rfl (fun hg => q_lss (k := .i64) (a := a_1) (b := (4096 : Int)) rfl (gvb_yes hg) rfl) ?_
 refine rv 8 rfl rfl rfl (q_pickGT (a := (decide (a_1 ≥ (0 : Int)))) (b := (decide (a_1 < (4096 : Int)))) rfl rfl rfl rfl) <| za 2 (.bool (((decide (a_1 ≥ (0 : Int))) && (decide (a_1 < (4096 : Int)))))) rfl rfl <| ro_nil <| wp_ret ?_
 exact zr1 h rfl rfl
def F54 (n_1 : Int) (w : World) (R : Int → World → Prop) : Prop :=
 if ((decide (n_1 < (0 : Int))) || (decide (n_1 > (1000000000000000 : Int)))) = true then (
  R (40 : Int) w
 ) else (
  R (0 : Int) w
 )
theorem F54_ok {n_1 : Int} {w : World} {R : Int → World → Prop} (h : F54 n_1 w R) : cl Tryz.prog 54 [.int .i64 (n_1)] (tInt .i64) w R := by
 unfold F54 at h
 refine calls_start 9 Tryz.func54 rfl rfl (Nat.le_of_ble_eq_true rfl) <| wp_seq <| wp_text [0] rfl <| za 2 (.int .i64 ((0 : Int))) rfl rfl <| ro_nil <| wp_seq <| wp_seq <| wp_text [0, 1, 2, 3, 4, 5] rfl <| zm 3 (.int .i64 (n_1)) rfl rfl <| rv 4 rfl rfl rfl (q_lss (a := n_1) (b := (0 : Int)) rfl rfl rfl) <| zm 5 (.bool ((decide (n_1 < (0 : Int))))) rfl rfl <| ro_gval (g := (!(decide (n_1 < (0 : Int))))) (d := (some 6)) rfl (.no 2 5 true (decide (n_1 < (0 : Int))) rfl rfl rfl rfl) rfl (fun hg => q_move (v := .int .i64 (n_1)) rfl rfl) ?_
 refine ro_gval (g := (!(decide (n_1 < (0 : Int))))) (d := (some 7)) rfl (.no 2 5 true (decide (n_1 < (0 : Int))) rfl rfl rfl rfl) rfl (fun hg => q_gtr (k := .i64) (a := n_1) (b := (1000000000000000 : Int)) rfl (gvb_yes hg) rfl) <| rv 8 rfl rfl rfl (q_pickGF (a := (decide (n_1 < (0 : Int)))) (c := (decide (n_1 > (1000000000000000 : Int)))) rfl rfl rfl rfl) <| ro_nil <| zi h rfl (fun _ h => ?_) fun _ h => ?_
 ·refine wp_seq <| wp_text [0] rfl <| za 2 (.int .i64 ((40 : Int))) rfl rfl <| ro_nil <| wp_ret ?_
  exact zr1 h rfl rfl
 ·refine wp_skip <| wp_seq <| wp_text [0] rfl <| za 2 (.int .i64 ((0 : Int))) rfl rfl <| ro_nil <| wp_ret ?_
  exact zr1 h rfl rfl
end Go.Proofs.YtehclfjjjiiieaaGreat.Cf
namespace Go.Proofs.YtehclfjjjiiieaaGreat.Cf
open Go
set_option maxRecDepth 100000
set_option maxHeartbeats 1000000
set_option linter.unusedVariables false
set_option linter.unusedSimpArgs false
def F55_j2 (t_2 : Int) (t_8 : Int) (a13 : Addr) (c_20 : (Option Addr)) (w21 : World) (K10 : Int → World → Prop) (R : Int → World → Prop) : Prop :=
 ex (RdAt (tInt .i64) (a13.add 1) w21) fun x22 =>
 cl Tryz.prog 91 [.pointer (c_20), .int .i64 (t_2), .int .i64 (x22)] (tInt .i64) w21 fun r24 w23 =>
 K10 ((IntKind.i64.wrap (t_8 + (1 : Int)))) w23
def F55_l1 (t_2 : Int) (l_3 : Slc) (a4 : Addr) (t_8 : Int) (w9 : World) (K10 : Int → World → Prop) (R : Int → World → Prop) : Prop :=
 if (decide (t_8 < (l_3.len : Int))) = true then (
  ex (IxA l_3 2 t_8) fun a11 =>
  ex (RdAt T122 a11 w9) fun x12 =>
  nw 123 T122 Z122 w9 fun a13 w14 =>
  st T122 a13 x12 w14 fun w15 =>
  dr w15 fun w16 =>
  ex (RdAt tMap (a4.add 0) w16) fun x17 =>
  ex (RdAt (tInt .i64) (a13.add 0) w16) fun x18 =>
  ex (MapGet tPtr .i64 x17 x18 w16) fun m19 =>
  if (!(((m19.getD (none : Option Addr), m19.isSome)).2)) = true then (
   cl Tryz.prog 90 [] tPtr w16 fun r26 w25 =>
   dr w25 fun w27 =>
   ex (RdAt tMap (a4.add 0) w27) fun x28 =>
   ex (RdAt (tInt .i64) (a13.add 0) w27) fun x29 =>
   mput tPtr .i64 x28 x29 r26 w27 fun w30 =>
   F55_j2 t_2 t_8 a13 r26 w30 K10 R
  ) else (
   F55_j2 t_2 t_8 a13 (((m19.getD (none : Option Addr), m19.isSome)).1) w16 K10 R
  )
 ) else (
  R (0 : Int) w9
 )
def F55 (s_1 : (Option Addr)) (t_2 : Int) (l_3 : Slc) (w : World) (R : Int → World → Prop) : Prop :=
 if ((decide (t_2 < (1 : Int))) || (decide (t_2 > (1125899906842624 : Int)))) = true then (
  R (120 : Int) w
 ) else (
  ex (NC s_1) fun a4 =>
  ex (RdAt (tInt .i64) (a4.add 1) w) fun x5 =>
  if (decide (t_2 ≤ x5)) = true then (
   R (121 : Int) w
  ) else (
   cl Tryz.prog 89 [.pointer (s_1), .int .i64 (t_2), tSlc.enc (l_3)] (tInt .i64) w fun r7 w6 =>
   if (r7 != (0 : Int)) = true then (
    R r7 w6
   ) else (
    lp (fun (s : Int) w K => F55_l1 t_2 l_3 a4 s w K R) ((0 : Int)) w6
   )
  )
 )
theorem F55_ok {s_1 : (Option Addr)} {t_2 : Int} {l_3 : Slc} {w : World} {R : Int → World → Prop} (h : F55 s_1 t_2 l_3 w R) : cl Tryz.prog 55 [.pointer (s_1), .int .i64 (t_2), tSlc.enc (l_3)] (tInt .i64) w R := by
 unfold F55 at h
 refine calls_start 65 Tryz.func55 rfl rfl (Nat.le_of_ble_eq_true rfl) <| wp_seq <| wp_text [0] rfl <| za 6 (.int .i64 ((0 : Int))) rfl rfl <| ro_nil <| wp_seq <| wp_block <| wp_seq <| wp_text [0, 1, 2, 3, 4, 5, 6] rfl <| zm 13 (.int .i64 (t_2)) rfl rfl <| rv 14 rfl rfl rfl (q_lss (a := t_2) (b := (1 : Int)) rfl rfl rfl) <| zm 15 (.bool ((decide (t_2 < (1 : Int))))) rfl rfl ?_
 refine ro_gval (g := (!(decide (t_2 < (1 : Int))))) (d := (some 16)) rfl (.no 2 15 true (decide (t_2 < (1 : Int))) rfl rfl rfl rfl) rfl (fun hg => q_move (v := .int .i64 (t_2)) rfl rfl) <| ro_gval (g := (!(decide (t_2 < (1 : Int))))) (d := (some 17)) rfl (.no 2 15 true (decide (t_2 < (1 : Int))) rfl rfl rfl rfl) rfl (fun hg => q_gtr (k := .i64) (a := t_2) (b := (1125899906842624 : Int)) rfl (gvb_yes hg) rfl) <| rv 18 rfl rfl rfl (q_pickGF (a := (decide (t_2 < (1 : Int)))) (c := (decide (t_2 > (1125899906842624 : Int)))) rfl rfl rfl rfl) <| za 12 (.bool (((decide (t_2 < (1 : Int))) || (decide (t_2 > (1125899906842624 : Int)))))) rfl rfl <| ro_nil <| zi h rfl (fun _ h => ?_) fun _ h => ?_
 ·refine wp_seq <| wp_text [0] rfl <| za 6 (.int .i64 ((120 : Int))) rfl rfl <| ro_nil <| wp_ret ?_
  exact zr1 h rfl rfl
 ·refine wp_seq <| wp_text [0, 1, 2, 3, 4, 5, 6] rfl <| zm 20 (.int .i64 (t_2)) rfl rfl <| zm 21 (.pointer (s_1)) rfl rfl ?_
  obtain ⟨a4, ha4, h⟩ := h
  refine zn 22 ha4 rfl rfl <| zf 23 a4 1 Tryz.underlying169 ok2 rfl rfl rfl ?_
  obtain ⟨x5, hx5, h⟩ := h
  refine zl 24 hx5 ok2 rfl rfl <| rv 25 rfl rfl rfl (q_leq (a := t_2) (b := x5) rfl rfl rfl) <| za 19 (.bool ((decide (t_2 ≤ x5)))) rfl rfl <| ro_nil <| zi h rfl (fun _ h => ?_) fun _ h => ?_
  ·refine wp_seq <| wp_text [0] rfl <| za 6 (.int .i64 ((121 : Int))) rfl rfl <| ro_nil <| wp_ret ?_
   exact zr1 h rfl rfl
  ·refine wp_skip <| wp_seq <| wp_seq <| wp_text [0, 1, 2, 3, 4] rfl <| zm 26 (.pointer (s_1)) rfl rfl <| zm 27 (.int .i64 (t_2)) rfl rfl <| zm 28 (tSlc.enc (l_3)) rfl rfl <| zc ent89 rfl rfl h fun r7 w6 h => za 7 (.int .i64 (r7)) rfl rfl <| ro_nil <| wp_seq <| wp_text [0, 1] rfl ?_
   refine zm 30 (.int .i64 (r7)) rfl rfl <| rv 31 rfl rfl rfl (q_neq (a := r7) (b := (0 : Int)) rfl rfl rfl) <| ro_nil <| zi h rfl (fun _ h => ?_) fun _ h => ?_
   ·refine wp_seq <| wp_text [0, 1] rfl <| zm 32 (.int .i64 (r7)) rfl rfl <| za 6 (.int .i64 (r7)) rfl rfl <| ro_nil <| wp_ret ?_
    exact zr1 h rfl rfl
   ·refine wp_skip <| wp_seq <| wp_seq <| wp_text [0, 1, 2] rfl <| zm 33 (tSlc.enc (l_3)) rfl rfl <| rv 34 rfl rfl rfl (q_len (s := l_3) rfl Tryz.underlying108 rfl) <| zm 35 (.int .i64 ((0 : Int))) rfl rfl <| ro_nil <| wp_block <| loop_at (σ := Int) (fr := fun g (s : Int) => upd (upd (upd (upd (upd (g) 0 (.pointer (s_1))) 1 (.int .i64 (t_2))) 33 (tSlc.enc (l_3))) 34 (.int .i64 ((l_3.len : Int)))) 35 (.int .i64 (s))) (s0 := ((0 : Int))) (upd_step (upd_step (upd_step (upd_step (upd_step rfl rfl) rfl) rfl) rfl) rfl) h ?_
    rintro t_8 g w9 K10 h
    unfold F55_l1 at h
    refine wp_seq <| wp_text [0] rfl <| rv 36 rfl rfl rfl (q_lss (a := t_8) (b := (l_3.len : Int)) rfl rfl rfl) <| ro_nil <| wp_seq <| zi h rfl (fun _ h => ?_) fun _ h => ?_
    ·refine wp_skip <| wp_seq <| wp_block <| wp_seq <| wp_text [0, 1, 2, 3] rfl ?_
     obtain ⟨a11, ha11, h⟩ := h
     refine rv 37 rfl rfl rfl (q_indexAddr (s := l_3) (k := .i64) (i := t_8) rfl Tryz.underlying108 ok123 rfl rfl ha11) ?_
     obtain ⟨x12, hx12, h⟩ := h
     refine zl 38 hx12 ok123 rfl rfl ?_
     obtain ⟨a13, w14, ha13, hw14, h⟩ := nw_open h
     refine rv 9 rfl rfl rfl (q_alloc (u := Z122) rfl ok123 inf123 ha13 hw14) ?_
     obtain ⟨w15, hw15, hrw15, h⟩ := st_open h
     refine ro_skip (d := none) rfl (.free rfl) rfl (q_store (T := T122) (u := x12) (a := a13) rfl ok123 rfl rfl hrw15 hw15) <| ro_nil <| wp_seq ?_
     obtain ⟨w16, hw16, h⟩ := dr_open h
     refine wp_drawn 12 mixed rfl (by kernel_rfl) (by intro c a d v w h; cases d <;> exact h) hw16 (fun hD => ?_)
     refine ym 0 40 (.pointer (s_1)) hD rfl rfl <| yn 1 41 ha4 hD rfl rfl <| yf 2 42 a4 0 Tryz.underlying169 ok167 hD rfl rfl rfl <| yf 4 44 a13 0 Tryz.underlying123 ok3 hD rfl rfl rfl ?_
     obtain ⟨x17, hx17, h⟩ := h
     refine yr 3 43 hx17 ok167 hD rfl rfl ?_
     obtain ⟨x18, hx18, h⟩ := h
     refine yr 5 45 hx18 ok3 hD rfl rfl ?_
     obtain ⟨m19, hm19, h⟩ := h
     refine rd_read (i := 6) (d := (some 46)) (fun W => (MapGet tPtr .i64 x17 x18 W) m19) hD (by kernel_rfl) (by kernel_rfl) rfl (.free rfl) rfl (fun W hr => q_lookup2 (T := tPtr) (r := x17) (key := x18) (u := m19) (z := (none : Option Addr)) rfl Tryz.underlying167 Tryz.underlying3 (inf165) rfl rfl hr) hm19 <| ym 7 39 ((tTup2 tPtr tBool).enc (((m19.getD (none : Option Addr), m19.isSome)))) hD rfl rfl <| rp 8 47 hD rfl rfl rfl (fun _ => q_extract (vs := #[.pointer (((m19.getD (none : Option Addr), m19.isSome)).1), .bool (((m19.getD (none : Option Addr), m19.isSome)).2)]) (v := .pointer (((m19.getD (none : Option Addr), m19.isSome)).1)) rfl rfl rfl) <| rp 9 48 hD rfl rfl rfl (fun _ => q_extract (vs := #[.pointer (((m19.getD (none : Option Addr), m19.isSome)).1), .bool (((m19.getD (none : Option Addr), m19.isSome)).2)]) (v := .bool (((m19.getD (none : Option Addr), m19.isSome)).2)) rfl rfl rfl) <| ya 10 10 (.pointer (((m19.getD (none : Option Addr), m19.isSome)).1)) hD rfl rfl <| ya 11 11 (.bool (((m19.getD (none : Option Addr), m19.isSome)).2)) hD rfl rfl <| rd_nil (by kernel_rfl) <| seq_join (σ := (Option Addr)) (J := fun (s : (Option Addr)) w => F55_j2 t_2 t_8 a13 s w K10 R) (fr := fun g (s : (Option Addr)) => upd (upd (upd (upd (upd (upd (upd (g) 0 (.pointer (s_1))) 1 (.int .i64 (t_2))) 9 (.pointer (some a13))) 33 (tSlc.enc (l_3))) 34 (.int .i64 ((l_3.len : Int)))) 35 (.int .i64 (t_8))) 10 (.pointer (s))) ?_ ?_
     ·rintro c_20 g w21 h
      unfold F55_j2 at h
      refine wp_text [0, 1, 2, 3, 4] rfl <| zm 59 (.pointer (c_20)) rfl rfl <| zm 60 (.int .i64 (t_2)) rfl rfl <| zf 61 a13 1 Tryz.underlying123 ok2 rfl rfl rfl ?_
      obtain ⟨x22, hx22, h⟩ := h
      refine zl 62 hx22 ok2 rfl rfl <| zc ent91 rfl rfl h fun r24 w23 h => ro_nil <| wp_text [0, 1] rfl <| rv 64 rfl rfl rfl (q_add (a := t_8) (b := (1 : Int)) rfl rfl rfl) <| zm 35 (.int .i64 ((IntKind.i64.wrap (t_8 + (1 : Int))))) rfl rfl <| ro_nil ?_
      exact ⟨((IntKind.i64.wrap (t_8 + (1 : Int)))), _, arr (upd_step (upd_step (upd_step (upd_step (upd_step rfl rfl) rfl) rfl) rfl) rfl), h⟩
     ·refine wp_seq <| wp_text [0, 1] rfl <| zm 49 (.bool (((m19.getD (none : Option Addr), m19.isSome)).2)) rfl rfl <| rv 50 rfl rfl rfl (q_not (b := ((m19.getD (none : Option Addr), m19.isSome)).2) rfl rfl) <| ro_nil <| zi h rfl (fun _ h => ?_) fun _ h => ?_
      ·refine wp_seq <| wp_text [0, 1] rfl <| zc ent90 rfl rfl h fun r26 w25 h => za 10 (.pointer (r26)) rfl rfl <| ro_nil ?_
       obtain ⟨w27, hw27, h⟩ := dr_open h
       refine wp_drawn 8 mixed rfl (by kernel_rfl) (by intro c a d v w h; cases d <;> exact h) hw27 (fun hD => ?_)
       refine ym 0 52 (.pointer (s_1)) hD rfl rfl <| yn 1 53 ha4 hD rfl rfl <| yf 2 54 a4 0 Tryz.underlying169 ok167 hD rfl rfl rfl <| yf 4 56 a13 0 Tryz.underlying123 ok3 hD rfl rfl rfl <| ym 6 58 (.pointer (r26)) hD rfl rfl ?_
       obtain ⟨x28, hx28, h⟩ := h
       refine yr 3 55 hx28 ok167 hD rfl rfl ?_
       obtain ⟨x29, hx29, h⟩ := h
       refine yr 5 57 hx29 ok3 hD rfl rfl <| rd_one (i := 7) (by kernel_rfl) <| po_wp rfl (.free rfl) (wp_mput (T := tPtr) (r := x28) (key := x29) (v := r26) (d := none) rfl (.inl rfl) Tryz.underlying167 Tryz.underlying3 rfl rfl rfl h ?_)
       intro w30 h
       refine ⟨(hk_wait (by kernel_rfl) (hk_wait (by kernel_rfl) hk_nil)), ?_⟩
       refine rd_nil (by kernel_rfl) ?_
       exact ⟨(r26), _, arr (upd_step (upd_step (upd_step (upd_step (upd_step (upd_step (upd_step rfl rfl) rfl) rfl) rfl) rfl) rfl) rfl), h⟩
      ·refine wp_skip ?_
       exact ⟨(((m19.getD (none : Option Addr), m19.isSome)).1), _, arr (upd_step (upd_step (upd_step (upd_step (upd_step (upd_step (upd_step rfl rfl) rfl) rfl) rfl) rfl) rfl) rfl), h⟩
    ·refine wp_exit <| wp_seq <| wp_text [0] rfl <| za 6 (.int .i64 ((0 : Int))) rfl rfl <| ro_nil <| wp_ret ?_
     exact zr1 h rfl rfl
def F56 (v_1 : (Option Addr)) (t_2 : Int) (w : World) (R : Unit → World → Prop) : Prop :=
 ex (NC v_1) fun a3 =>
 ex (RdAt (tInt .i64) (a3.add 2) w) fun x4 =>
 st (tInt .i64) (a3.add 2) (max x4 t_2) w fun w5 =>
 R () w5
theorem F56_ok {v_1 : (Option Addr)} {t_2 : Int} {w : World} {R : Unit → World → Prop} (h : F56 v_1 t_2 w R) : cl Tryz.prog 56 [.pointer (v_1), .int .i64 (t_2)] tUnit w R := by
 unfold F56 at h
 refine calls_start 13 Tryz.func56 rfl rfl (Nat.le_of_ble_eq_true rfl) <| wp_text [0, 1, 2, 3, 4, 5, 6, 7, 8, 9] rfl <| zm 4 (.pointer (v_1)) rfl rfl <| zm 5 (.pointer (v_1)) rfl rfl ?_
 obtain ⟨a3, ha3, h⟩ := h
 refine zn 6 ha3 rfl rfl <| zf 7 a3 2 Tryz.underlying101 ok2 rfl rfl rfl ?_
 obtain ⟨x4, hx4, h⟩ := h
 refine zl 8 hx4 ok2 rfl rfl <| zm 9 (.int .i64 (t_2)) rfl rfl <| rv 10 rfl rfl rfl (q_max (a := x4) (b := t_2) rfl rfl rfl) <| zn 11 ha3 rfl rfl <| zf 12 a3 2 Tryz.underlying101 ok2 rfl rfl rfl ?_
 obtain ⟨w5, hw5, hrw5, h⟩ := st_open h
 refine ro_skip (d := none) rfl (.free rfl) rfl (q_store (T := (tInt .i64)) (u := (max x4 t_2)) (a := (a3.add 2)) rfl ok2 rfl rfl hrw5 hw5) <| ro_nil ?_
 exact end_ok rfl .nil ⟨(), rfl, h⟩
def F57 (v_1 : S63) (w : World) (R : Int → World → Prop) : Prop :=
 nw 64 T63 v_1 w fun a2 w3 =>
 ex (RdAt T63 a2 w3) fun x4 =>
 cl Tryz.prog 92 [T63.enc (x4)] tBool w3 fun r6 w5 =>
 if (!r6) = true then (
  R (21 : Int) w5
 ) else (
  ex (RdAt tStr (a2.add 4) w5) fun x7 =>
  if (decide ((x7.length : Int) > (1000 : Int))) = true then (
   R (24 : Int) w5
  ) else (
   R (0 : Int) w5
  )
 )
theorem F57_ok {v_1 : S63} {w : World} {R : Int → World → Prop} (h : F57 v_1 w R) : cl Tryz.prog 57 [T63.enc (v_1)] (tInt .i64) w R := by
 unfold F57 at h
 refine calls_start 12 Tryz.func57 rfl rfl (Nat.le_of_ble_eq_true rfl) <| wp_seq <| wp_text [0, 1] rfl ?_
 obtain ⟨a2, w3, ha2, hw3, h⟩ := nw_open h
 refine rv 1 rfl rfl rfl (q_box (u := v_1) rfl ok64 rfl ha2 hw3) <| za 2 (.int .i64 ((0 : Int))) rfl rfl <| ro_nil <| wp_seq <| wp_block <| wp_seq <| wp_text [0, 1, 2, 3] rfl ?_
 obtain ⟨x4, hx4, h⟩ := h
 refine zl 4 hx4 ok64 rfl rfl <| zc ent92 rfl rfl h fun r6 w5 h => rv 6 rfl rfl rfl (q_not (b := r6) rfl rfl) <| za 3 (.bool ((!r6))) rfl rfl <| ro_nil <| zi h rfl (fun _ h => ?_) fun _ h => ?_
 ·refine wp_seq <| wp_text [0] rfl <| za 2 (.int .i64 ((21 : Int))) rfl rfl <| ro_nil <| wp_ret ?_
  exact zr1 h rfl rfl
 ·refine wp_seq <| wp_text [0, 1, 2, 3, 4] rfl <| zf 8 a2 4 Tryz.underlying64 ok9 rfl rfl rfl ?_
  obtain ⟨x7, hx7, h⟩ := h
  refine zl 9 hx7 ok9 rfl rfl <| rv 10 rfl rfl rfl (q_lenS (s := x7) rfl Tryz.underlying9 rfl) <| rv 11 rfl rfl rfl (q_gtr (a := (x7.length : Int)) (b := (1000 : Int)) rfl rfl rfl) <| za 7 (.bool ((decide ((x7.length : Int) > (1000 : Int))))) rfl rfl <| ro_nil <| zi h rfl (fun _ h => ?_) fun _ h => ?_
  ·refine wp_seq <| wp_text [0] rfl <| za 2 (.int .i64 ((24 : Int))) rfl rfl <| ro_nil <| wp_ret ?_
   exact zr1 h rfl rfl
  ·refine wp_skip <| wp_seq <| wp_text [0] rfl <| za 2 (.int .i64 ((0 : Int))) rfl rfl <| ro_nil <| wp_ret ?_
   exact zr1 h rfl rfl
def F58_l1 (r22 : Int) (b_23 : Slc) (i_24 : Int) (w25 : World) (K26 : Slc × Int → World → Prop) (R : Slc → World → Prop) : Prop :=
 if (decide (i_24 ≥ (0 : Int))) = true then (
  ex (Shift (IntKind.u64.wrap i_24) (Int.fdiv r22 (2 ^ (min ((IntKind.u64.wrap i_24)).toNat IntKind.u64.bits)))) fun d27 =>
  apl 5 (tInt .u8) 1 1 b_23 [(IntKind.u8.wrap d27)] w25 fun r31 w30 =>
  K26 (r31, (IntKind.i64.wrap (i_24 - (8 : Int)))) w30
 ) else (
  R b_23 w25
 )
def F58 (b_1 : Slc) (v_2 : S63) (w : World) (R : Slc → World → Prop) : Prop :=
 nw 64 T63 v_2 w fun a3 w4 =>
 ex (RdAt (tInt .i64) (a3.add 0) w4) fun x5 =>
 apl 5 (tInt .u8) 1 1 b_1 [(IntKind.u8.wrap x5)] w4 fun r9 w8 =>
 ex (RdAt (tInt .i64) (a3.add 0) w8) fun x10 =>
 if (x10 == (1 : Int)) = true then (
  ex (RdAt (tInt .u64) (a3.add 1) w8) fun x11 =>
  cl Tryz.prog 93 [tSlc.enc (r9), .int .u64 (x11)] tSlc w8 fun r13 w12 =>
  R r13 w12
 ) else (
  if (x10 == (2 : Int)) = true then (
   ex (RdAt (tInt .i64) (a3.add 2) w8) fun x14 =>
   ex (Shift (1 : Int) (IntKind.u64.wrap ((IntKind.u64.wrap x14) * 2 ^ (min ((1 : Int)).toNat IntKind.u64.bits)))) fun d15 =>
   ex (RdAt (tInt .i64) (a3.add 2) w8) fun x16 =>
   ex (Shift (63 : Int) (Int.fdiv x16 (2 ^ (min ((63 : Int)).toNat IntKind.i64.bits)))) fun d17 =>
   cl Tryz.prog 93 [tSlc.enc (r9), .int .u64 ((bits .xor .u64 d15 (IntKind.u64.wrap d17)))] tSlc w8 fun r19 w18 =>
   R r19 w18
  ) else (
   if (x10 == (3 : Int)) = true then (
    ex (RdAt tFlt (a3.add 3) w8) fun x20 =>
    cl Tryz.prog 94 [.float .f64 (x20)] (tInt .u64) w8 fun r22 w21 =>
    lp (fun (s : Slc × Int) w K => F58_l1 r22 s.1 s.2 w K R) (r9, (56 : Int)) w21
   ) else (
    dr w8 fun w33 =>
    ex (RdAt tStr (a3.add 4) w33) fun x34 =>
    ex (RdAt tStr (a3.add 4) w33) fun x35 =>
    cl Tryz.prog 93 [tSlc.enc (r9), .int .u64 ((IntKind.u64.wrap (x34.length : Int)))] tSlc w33 fun r37 w36 =>
    kp ((RdAt tStr (a3.add 4) w36) x34) <|
    kp ((RdAt tStr (a3.add 4) w36) x35) <|
    apS 5 r37 x35 w36 fun r41 w40 =>
    kp ((RdAt tStr (a3.add 4) w40) x34) <|
    R r41 w40
   )
  )
 )
theorem F58_ok {b_1 : Slc} {v_2 : S63} {w : World} {R : Slc → World → Prop} (h : F58 b_1 v_2 w R) : cl Tryz.prog 58 [tSlc.enc (b_1), T63.enc (v_2)] tSlc w R := by
 unfold F58 at h
 refine calls_start 61 Tryz.func58 rfl rfl (Nat.le_of_ble_eq_true rfl) <| wp_seq <| wp_text [0, 1] rfl ?_
 obtain ⟨a3, w4, ha3, hw4, h⟩ := nw_open h
 refine rv 3 rfl rfl rfl (q_box (u := v_2) rfl ok64 rfl ha3 hw4) <| za 4 (tSlc.enc ((⟨none, 0, 0⟩ : Slc))) rfl rfl <| ro_nil <| wp_seq <| wp_text [0, 1, 2, 3, 4, 5, 6] rfl <| zm 7 (tSlc.enc (b_1)) rfl rfl <| zf 8 a3 0 Tryz.underlying64 ok62 rfl rfl rfl ?_
 obtain ⟨x5, hx5, h⟩ := h
 refine zl 9 hx5 ok62 rfl rfl <| rv 10 rfl rfl rfl (q_cvtI (a := x5) rfl Tryz.underlying62 Tryz.underlying5 rfl) ?_
 obtain ⟨a6, w7, ha6, hw7, h⟩ := apl_open h
 refine rv 11 rfl rfl rfl (q_rowOf (T := (tInt .u8)) (xs := [(IntKind.u8.wrap x5)]) rfl Tryz.underlying25 ok5 inf5 rfl (by decide) (by decide) rfl ha6 hw7) <| ro_wp rfl (.free rfl) (wp_append (d := (some 12)) (T := (tInt .u8)) rfl rfl Tryz.underlying25 ⟨_, Tryz.underlying25⟩ ok5 inf5 rfl rfl (Nat.lt_of_lt_of_le Nat.zero_lt_one (Nat.le_of_ble_eq_true rfl)) rfl rfl h ?_)
 intro r9 w8 h
 refine za 0 (tSlc.enc (r9)) rfl rfl <| ro_nil <| wp_seq <| wp_seq <| wp_text [0, 1] rfl <| zf 13 a3 0 Tryz.underlying64 ok62 rfl rfl rfl ?_
 obtain ⟨x10, hx10, h⟩ := h
 refine zl 14 hx10 ok62 rfl rfl <| ro_nil <| wp_block <| wp_seq <| wp_text [0, 1] rfl <| rv 16 rfl rfl rfl (q_eql (a := x10) (b := (1 : Int)) rfl rfl rfl) <| za 15 (.bool ((x10 == (1 : Int)))) rfl rfl <| ro_nil <| zi h rfl (fun _ h => ?_) fun _ h => ?_
 ·refine wp_seq <| wp_text [0, 1, 2, 3, 4] rfl <| zm 17 (tSlc.enc (r9)) rfl rfl <| zf 18 a3 1 Tryz.underlying64 ok61 rfl rfl rfl ?_
  obtain ⟨x11, hx11, h⟩ := h
  refine zl 19 hx11 ok61 rfl rfl <| zc ent93 rfl rfl h fun r13 w12 h => za 4 (tSlc.enc (r13)) rfl rfl <| ro_nil <| wp_ret ?_
  exact zr1 h rfl rfl
 ·refine wp_seq <| wp_text [0, 1] rfl <| rv 22 rfl rfl rfl (q_eql (a := x10) (b := (2 : Int)) rfl rfl rfl) <| za 21 (.bool ((x10 == (2 : Int)))) rfl rfl <| ro_nil <| zi h rfl (fun _ h => ?_) fun _ h => ?_
  ·refine wp_seq <| wp_text [0, 1, 2, 3, 4, 5, 6, 7, 8, 9, 10, 11] rfl <| zm 23 (tSlc.enc (r9)) rfl rfl <| zf 24 a3 2 Tryz.underlying64 ok2 rfl rfl rfl ?_
   obtain ⟨x14, hx14, h⟩ := h
   refine zl 25 hx14 ok2 rfl rfl <| rv 26 rfl rfl rfl (q_cvtI (a := x14) rfl Tryz.underlying2 Tryz.underlying61 rfl) ?_
   obtain ⟨d15, hd15, h⟩ := h
   refine rv 27 rfl rfl rfl (q_shl (a := (IntKind.u64.wrap x14)) (b := (1 : Int)) (r := d15) rfl rfl rfl hd15) <| zf 28 a3 2 Tryz.underlying64 ok2 rfl rfl rfl ?_
   obtain ⟨x16, hx16, h⟩ := h
   refine zl 29 hx16 ok2 rfl rfl ?_
   obtain ⟨d17, hd17, h⟩ := h
   refine rv 30 rfl rfl rfl (q_shr (a := x16) (b := (63 : Int)) (r := d17) rfl rfl rfl hd17) <| rv 31 rfl rfl rfl (q_cvtI (a := d17) rfl Tryz.underlying2 Tryz.underlying61 rfl) <| rv 32 rfl rfl rfl (q_xor (a := d15) (b := (IntKind.u64.wrap d17)) rfl rfl rfl) <| zc ent93 rfl rfl h fun r19 w18 h => za 4 (tSlc.enc (r19)) rfl rfl <| ro_nil <| wp_ret ?_
   exact zr1 h rfl rfl
  ·refine wp_seq <| wp_text [0, 1] rfl <| rv 35 rfl rfl rfl (q_eql (a := x10) (b := (3 : Int)) rfl rfl rfl) <| za 34 (.bool ((x10 == (3 : Int)))) rfl rfl <| ro_nil <| zi h rfl (fun _ h => ?_) fun _ h => ?_
   ·refine wp_seq <| wp_text [0, 1, 2, 3] rfl <| zf 36 a3 3 Tryz.underlying64 ok40 rfl rfl rfl ?_
    obtain ⟨x20, hx20, h⟩ := h
    refine zl 37 hx20 ok40 rfl rfl <| zc ent94 rfl rfl h fun r22 w21 h => za 5 (.int .u64 (r22)) rfl rfl <| ro_nil <| wp_seq <| wp_seq <| wp_text [0] rfl <| za 6 (.int .i64 ((56 : Int))) rfl rfl <| ro_nil <| wp_block <| loop_at (σ := Slc × Int) (fr := fun g (s : Slc × Int) => upd (upd (upd (g) 5 (.int .u64 (r22))) 0 (tSlc.enc (s.1))) 6 (.int .i64 (s.2))) (s0 := (r9, (56 : Int))) (upd_step (upd_step (upd_step rfl rfl) rfl) rfl) h ?_
    rintro ⟨b_23, i_24⟩ g w25 K26 h
    unfold F58_l1 at h
    refine wp_seq <| wp_seq <| wp_text [0, 1] rfl <| zm 39 (.int .i64 (i_24)) rfl rfl <| rv 40 rfl rfl rfl (q_geq (a := i_24) (b := (0 : Int)) rfl rfl rfl) <| ro_nil <| zi h rfl (fun _ h => ?_) fun _ h => ?_
    ·refine wp_skip <| wp_seq <| wp_block <| wp_text [0, 1, 2, 3, 4, 5, 6, 7, 8] rfl <| zm 43 (tSlc.enc (b_23)) rfl rfl <| zm 44 (.int .u64 (r22)) rfl rfl <| zm 45 (.int .i64 (i_24)) rfl rfl <| rv 46 rfl rfl rfl (q_cvtI (a := i_24) rfl Tryz.underlying3 Tryz.underlying175 rfl) ?_
     obtain ⟨d27, hd27, h⟩ := h
     refine rv 47 rfl rfl rfl (q_shr (a := r22) (b := (IntKind.u64.wrap i_24)) (r := d27) rfl rfl rfl hd27) <| rv 48 rfl rfl rfl (q_cvtI (a := d27) rfl Tryz.underlying61 Tryz.underlying5 rfl) ?_
     obtain ⟨a28, w29, ha28, hw29, h⟩ := apl_open h
     refine rv 49 rfl rfl rfl (q_rowOf (T := (tInt .u8)) (xs := [(IntKind.u8.wrap d27)]) rfl Tryz.underlying25 ok5 inf5 rfl (by decide) (by decide) rfl ha28 hw29) <| ro_wp rfl (.free rfl) (wp_append (d := (some 50)) (T := (tInt .u8)) rfl rfl Tryz.underlying25 ⟨_, Tryz.underlying25⟩ ok5 inf5 rfl rfl (Nat.lt_of_lt_of_le Nat.zero_lt_one (Nat.le_of_ble_eq_true rfl)) rfl rfl h ?_)
     intro r31 w30 h
     refine za 0 (tSlc.enc (r31)) rfl rfl <| ro_nil <| wp_text [0, 1, 2] rfl <| zm 41 (.int .i64 (i_24)) rfl rfl <| rv 42 rfl rfl rfl (q_sub (a := i_24) (b := (8 : Int)) rfl rfl rfl) <| za 6 (.int .i64 ((IntKind.i64.wrap (i_24 - (8 : Int))))) rfl rfl <| ro_nil ?_
     exact ⟨(r31, (IntKind.i64.wrap (i_24 - (8 : Int)))), _, arr (upd_step (upd_step (upd_step rfl rfl) rfl) rfl), h⟩
    ·refine wp_exit <| wp_seq <| wp_text [0, 1] rfl <| zm 51 (tSlc.enc (b_23)) rfl rfl <| za 4 (tSlc.enc (b_23)) rfl rfl <| ro_nil <| wp_ret ?_
     exact zr1 h rfl rfl
   ·refine wp_skip <| wp_seq ?_
    obtain ⟨w33, hw33, h⟩ := dr_open h
    refine wp_drawn 10 mixed rfl (by kernel_rfl) (by intro c a d v w h; cases d <;> exact h) hw33 (fun hD => ?_)
    refine ym 0 52 (tSlc.enc (r9)) hD rfl rfl <| yf 1 53 a3 4 Tryz.underlying64 ok9 hD rfl rfl rfl <| yf 6 58 a3 4 Tryz.underlying64 ok9 hD rfl rfl rfl ?_
    obtain ⟨x34, hx34, h⟩ := h
    refine yr 2 54 hx34 ok9 hD rfl rfl <| rp 3 55 hD rfl rfl rfl (fun _ => q_lenS (s := x34) rfl Tryz.underlying9 rfl) <| rp 4 56 hD rfl rfl rfl (fun _ => q_cvtI (a := (x34.length : Int)) rfl Tryz.underlying3 Tryz.underlying61 rfl) ?_
    obtain ⟨x35, hx35, h⟩ := h
    refine yr 7 59 hx35 ok9 hD rfl rfl <| rd_one (i := 5) (by kernel_rfl) <| po_wp rfl (.free rfl) (wp_cl (d := (some 57)) rfl (q_call (k := 93) (l := [tSlc.enc (r9), .int .u64 ((IntKind.u64.wrap (x34.length : Int)))]) rfl ent93 rfl) h ?_)
    intro r37 w36 h
    obtain ⟨hk38, h⟩ := h
    obtain ⟨hk39, h⟩ := h
    refine ⟨(hk_keep (fun _ => hk39) (hk_keep (fun _ => hk38) hk_nil)), ?_⟩
    refine rd_one (i := 8) (by kernel_rfl) <| po_wp rfl (.free rfl) (wp_appendS (d := (some 60)) rfl rfl Tryz.underlying25 Tryz.underlying9 ok5 inf5 rfl rfl h ?_)
    intro r41 w40 h
    obtain ⟨hk42, h⟩ := h
    refine ⟨(hk_wait (by kernel_rfl) (hk_keep (fun _ => hk42) hk_nil)), ?_⟩
    refine ya 9 4 (tSlc.enc (r41)) hD rfl rfl <| rd_nil (by kernel_rfl) <| wp_ret ?_
    exact zr1 h rfl rfl
def F59 (t_1 : Addr) (t_2 : Addr) (t_3 : Addr) (t_4 : Addr) (rc : Iv) (w : World) (R : World → Prop) : Prop :=
 if (!(Iv.isNil rc)) = true then (
  ex (Asrt 131 T130 Z130 rc) fun p5 =>
  nw 131 T130 Z130 w fun a6 w7 =>
  st T130 a6 p5.1 w7 fun w8 =>
  if (!p5.2) = true then (
   False
  ) else (
   dr w8 fun w9 =>
   ex (RdAt (tInt .i64) t_1 w9) fun x10 =>
   ex (RdAt (tInt .i64) (a6.add 0) w9) fun x11 =>
   st tSlc t_2 (⟨none, 0, 0⟩ : Slc) w9 fun w12 =>
   kp ((RdAt (tInt .i64) (a6.add 0) w12) x11) <|
   st (tInt .i64) t_3 x10 w12 fun w14 =>
   kp ((RdAt (tInt .i64) (a6.add 0) w14) x11) <|
   st (tInt .i64) t_4 x11 w14 fun w16 =>
   R w16
  )
 ) else (
  R w
 )
theorem F59_ok {t_1 : Addr} {t_2 : Addr} {t_3 : Addr} {t_4 : Addr} {rc : Iv} {u u' : FrameMode} {w : World} {R : World → Prop} (hrc : Recov u rc u') (h : F59 t_1 t_2 t_3 t_4 rc w R) : CallsD Tryz.prog 59 (List.toArray [.pointer (some t_1), .pointer (some t_2), .pointer (some t_3), .pointer (some t_4)]) u w fun e u2 w' => (∃ v, e = .returned v) ∧ u2 = u' ∧ R w' := by
 unfold F59 at h
 refine callsD_start 21 Tryz.func59 rfl rfl (Nat.le_of_ble_eq_true rfl) fun c₀ cs hu => wpS_seq <| wpS_text [0, 1] rfl <| ros_rec (v := rc) (d := (some 7)) rfl rfl rfl rfl hu hrc <| ros_val (d := (some 4)) rfl rfl rfl (q_assign (v := (rc).enc) rfl rfl) <| ros_nil (wpS_of_wp ?_)
 refine wp_seq <| wp_text [0, 1] rfl <| zm 8 ((rc).enc) rfl rfl <| rv 9 rfl rfl rfl (q_neI0 (v := rc) rfl Tryz.underlying20 rfl) <| ro_nil <| zi h rfl (fun _ h => ?_) fun _ h => ?_
 ·refine wp_seq <| wp_text [0, 1, 2, 3, 4, 5, 6, 7] rfl <| zm 11 ((rc).enc) rfl rfl ?_
  obtain ⟨p5, hp5, h⟩ := h
  refine rv 12 rfl rfl rfl (q_assert2 (T := T130) (z := Z130) (v := rc) (p := p5) rfl ⟨_, Tryz.underlying131, rfl⟩ inf131 rfl hp5) <| zm 10 ((tTup2 T130 tBool).enc (p5)) rfl rfl <| ze 13 (T130.enc (p5.1)) rfl rfl rfl <| ze 14 (.bool (p5.2)) rfl rfl rfl ?_
  obtain ⟨a6, w7, ha6, hw7, h⟩ := nw_open h
  refine rv 5 rfl rfl rfl (q_alloc (u := Z130) rfl ok131 inf131 ha6 hw7) ?_
  obtain ⟨w8, hw8, hrw8, h⟩ := st_open h
  refine ro_skip (d := none) rfl (.free rfl) rfl (q_store (T := T130) (u := p5.1) (a := a6) rfl ok131 rfl rfl hrw8 hw8) <| za 6 (.bool (p5.2)) rfl rfl <| ro_nil <| wp_seq <| wp_seq <| wp_text [0, 1] rfl <| zm 15 (.bool (p5.2)) rfl rfl <| rv 16 rfl rfl rfl (q_not (b := p5.2) rfl rfl) <| ro_nil <| zi h rfl (fun _ h => ?_) fun _ h => ?_
  ·refine wp_text [0, 1] rfl <| zm 17 ((rc).enc) rfl rfl ?_
   exact h.elim
  ·refine wp_skip ?_
   obtain ⟨w9, hw9, h⟩ := dr_open h
   refine wp_drawn 6 mixed rfl (by kernel_rfl) (by intro c a d v w h; cases d <;> exact h) hw9 (fun hD => ?_)
   refine yf 1 19 a6 0 Tryz.underlying131 ok34 hD rfl rfl rfl ?_
   obtain ⟨x10, hx10, h⟩ := h
   refine yr 0 18 hx10 ok3 hD rfl rfl ?_
   obtain ⟨x11, hx11, h⟩ := h
   refine yr 2 20 hx11 ok34 hD rfl rfl <| rd_one (i := 3) (by kernel_rfl) ?_
   obtain ⟨w12, hw12, hrw12, h⟩ := st_open h
   obtain ⟨hk13, h⟩ := h
   refine po_skip (d := none) rfl (.free rfl) rfl (q_store (T := tSlc) (u := (⟨none, 0, 0⟩ : Slc)) (a := t_2) rfl ok65 rfl rfl hrw12 hw12) ⟨(hk_keep (fun _ => hk13) (hk_wait (by kernel_rfl) hk_nil)), ?_⟩
   refine rd_one (i := 4) (by kernel_rfl) ?_
   obtain ⟨w14, hw14, hrw14, h⟩ := st_open h
   obtain ⟨hk15, h⟩ := h
   refine po_skip (d := none) rfl (.free rfl) rfl (q_store (T := (tInt .i64)) (u := x10) (a := t_3) rfl ok3 rfl rfl hrw14 hw14) ⟨(hk_keep (fun _ => hk15) (hk_wait (by kernel_rfl) hk_nil)), ?_⟩
   refine rd_one (i := 5) (by kernel_rfl) ?_
   obtain ⟨w16, hw16, hrw16, h⟩ := st_open h
   refine po_skip (d := none) rfl (.free rfl) rfl (q_store (T := (tInt .i64)) (u := x11) (a := t_4) rfl ok34 rfl rfl hrw16 hw16) ⟨(hk_wait (by kernel_rfl) (hk_wait (by kernel_rfl) hk_nil)), ?_⟩
   refine rd_nil (by kernel_rfl) ?_
   exact endS_ok rfl h
 ·refine wp_skip ?_
  exact endS_ok rfl h
def F60_j1 (a2 : Addr) (a6 : Addr) (w9 : World) (R : S63 → World → Prop) (Pn : Iv → World → Prop) : Prop :=
 ex (RdAt T63 a6 w9) fun x10 =>
 st T63 a2 x10 w9 fun w11 =>
 ex (RdAt T63 a2 w11) fun x12 =>
 R x12 w11
def F60 (r_1 : (Option Addr)) (w : World) (R : S63 → World → Prop) (Pn : Iv → World → Prop) : Prop :=
 nw 64 T63 Z63 w fun a2 w3 =>
 clp Tryz.prog 95 [.pointer (r_1)] (tInt .u8) w3 Pn fun r5 w4 =>
 nw 64 T63 Z63 w4 fun a6 w7 =>
 st T63 a6 (⟨(IntKind.i64.wrap r5), (0 : Int), (0 : Int), (0 : Nat), ([] : List UInt8)⟩ : S63) w7 fun w8 =>
 ex (RdAt (tInt .i64) (a6.add 0) w8) fun x13 =>
 if (x13 == (1 : Int)) = true then (
  clp Tryz.prog 96 [.pointer (r_1)] (tInt .u64) w8 Pn fun r15 w14 =>
  st (tInt .u64) (a6.add 1) r15 w14 fun w16 =>
  F60_j1 a2 a6 w16 R Pn
 ) else (
  if (x13 == (2 : Int)) = true then (
   clp Tryz.prog 96 [.pointer (r_1)] (tInt .u64) w8 Pn fun r18 w17 =>
   ex (Shift (1 : Int) (Int.fdiv r18 (2 ^ (min ((1 : Int)).toNat IntKind.u64.bits)))) fun d19 =>
   st (tInt .i64) (a6.add 2) (bits .xor .i64 (IntKind.i64.wrap d19) (IntKind.i64.wrap (0 - (IntKind.i64.wrap (bits .and .u64 r18 (1 : Int)))))) w17 fun w20 =>
   F60_j1 a2 a6 w20 R Pn
  ) else (
   if (x13 == (3 : Int)) = true then (
    clp Tryz.prog 97 [.pointer (r_1)] tFlt w8 Pn fun r22 w21 =>
    st tFlt (a6.add 3) r22 w21 fun w23 =>
    F60_j1 a2 a6 w23 R Pn
   ) else (
    if (x13 == (4 : Int)) = true then (
     clp Tryz.prog 98 [.pointer (r_1)] tStr w8 Pn fun r25 w24 =>
     st tStr (a6.add 4) r25 w24 fun w26 =>
     F60_j1 a2 a6 w26 R Pn
    ) else (
     Pn (Iv.mk 131 (T130.enc ((⟨(21 : Int)⟩ : S130)))) w8
    )
   )
  )
 )
theorem F60_ok {r_1 : (Option Addr)} {w : World} {R : S63 → World → Prop} {Pn : Iv → World → Prop} (h : F60 r_1 w R Pn) : clp Tryz.prog 60 [.pointer (r_1)] T63 w Pn R := by
 unfold F60 at h
 refine calls_start 42 Tryz.func60 rfl rfl (Nat.le_of_ble_eq_true rfl) <| wp_seq <| wp_text [0] rfl ?_
 obtain ⟨a2, w3, ha2, hw3, h⟩ := nw_open h
 refine rv 2 rfl rfl rfl (q_alloc (u := Z63) rfl ok64 inf64 ha2 hw3) <| ro_nil <| wp_seq <| wp_text [0, 1, 2, 3, 4, 5] rfl <| zm 5 (.pointer (r_1)) rfl rfl <| ro_wp rfl (.free rfl) (wp_clp (d := (some 6)) rfl (q_call (k := 95) (l := [.pointer (r_1)]) rfl ent95 rfl) h ?_ ?_)
 ·exact fun _ _ h => pan_ok (P := Tryz.prog) (fn := Tryz.f60) h
 intro r5 w4 h
 refine rv 7 rfl rfl rfl (q_cvtI (a := r5) rfl Tryz.underlying5 Tryz.underlying62 rfl) <| rv 8 rfl rfl rfl (q_build64_0 (v0 := (IntKind.i64.wrap r5)) rfl rfl) ?_
 obtain ⟨a6, w7, ha6, hw7, h⟩ := nw_open h
 refine rv 3 rfl rfl rfl (q_alloc (u := Z63) rfl ok64 inf64 ha6 hw7) ?_
 obtain ⟨w8, hw8, hrw8, h⟩ := st_open h
 refine ro_skip (d := none) rfl (.free rfl) rfl (q_store (T := T63) (u := (⟨(IntKind.i64.wrap r5), (0 : Int), (0 : Int), (0 : Nat), ([] : List UInt8)⟩ : S63)) (a := a6) rfl ok64 rfl rfl hrw8 hw8) <| ro_nil <| seq_join (σ := Unit) (J := fun (s : Unit) w => F60_j1 a2 a6 w R Pn) (fr := fun g (s : Unit) => upd (upd (g) 2 (.pointer (some a2))) 3 (.pointer (some a6))) ?_ ?_
 ·rintro ⟨⟩ g w9 h
  unfold F60_j1 at h
  refine wp_seq <| wp_text [0, 1] rfl ?_
  obtain ⟨x10, hx10, h⟩ := h
  refine zl 41 hx10 ok64 rfl rfl ?_
  obtain ⟨w11, hw11, hrw11, h⟩ := st_open h
  refine ro_skip (d := none) rfl (.free rfl) rfl (q_store (T := T63) (u := x10) (a := a2) rfl ok64 rfl rfl hrw11 hw11) <| ro_nil <| wp_ret ?_
  obtain ⟨x12, hx12, h⟩ := h
  exact ret_ok rfl (.cons (.cell (T := T63) (u := x12) (a := a2) ok64 rfl hx12) .nil) ⟨x12, rfl, h⟩
 ·refine wp_seq <| wp_text [0, 1] rfl <| zf 9 a6 0 Tryz.underlying64 ok62 rfl rfl rfl ?_
  obtain ⟨x13, hx13, h⟩ := h
  refine zl 10 hx13 ok62 rfl rfl <| ro_nil <| wp_block <| wp_seq <| wp_text [0, 1] rfl <| rv 14 rfl rfl rfl (q_eql (a := x13) (b := (1 : Int)) rfl rfl rfl) <| za 13 (.bool ((x13 == (1 : Int)))) rfl rfl <| ro_nil <| zi h rfl (fun _ h => ?_) fun _ h => ?_
  ·refine wp_text [0, 1, 2, 3] rfl <| zm 15 (.pointer (r_1)) rfl rfl <| ro_wp rfl (.free rfl) (wp_clp (d := (some 16)) rfl (q_call (k := 96) (l := [.pointer (r_1)]) rfl ent96 rfl) h ?_ ?_)
   ·exact fun _ _ h => pan_ok (P := Tryz.prog) (fn := Tryz.f60) h
   intro r15 w14 h
   refine zf 17 a6 1 Tryz.underlying64 ok61 rfl rfl rfl ?_
   obtain ⟨w16, hw16, hrw16, h⟩ := st_open h
   refine ro_skip (d := none) rfl (.free rfl) rfl (q_store (T := (tInt .u64)) (u := r15) (a := (a6.add 1)) rfl ok61 rfl rfl hrw16 hw16) <| ro_nil ?_
   exact ⟨(), _, arr (upd_step (upd_step rfl rfl) rfl), h⟩
  ·refine wp_seq <| wp_text [0, 1] rfl <| rv 19 rfl rfl rfl (q_eql (a := x13) (b := (2 : Int)) rfl rfl rfl) <| za 18 (.bool ((x13 == (2 : Int)))) rfl rfl <| ro_nil <| zi h rfl (fun _ h => ?_) fun _ h => ?_
   ·refine wp_seq <| wp_text [0, 1, 2] rfl <| zm 20 (.pointer (r_1)) rfl rfl <| ro_wp rfl (.free rfl) (wp_clp (d := (some 21)) rfl (q_call (k := 96) (l := [.pointer (r_1)]) rfl ent96 rfl) h ?_ ?_)
    ·exact fun _ _ h => pan_ok (P := Tryz.prog) (fn := Tryz.f60) h
    intro r18 w17 h
    refine za 4 (.int .u64 (r18)) rfl rfl <| ro_nil <| wp_text [0, 1, 2, 3, 4, 5, 6, 7, 8, 9] rfl <| zm 22 (.int .u64 (r18)) rfl rfl ?_
    obtain ⟨d19, hd19, h⟩ := h
    refine rv 23 rfl rfl rfl (q_shr (a := r18) (b := (1 : Int)) (r := d19) rfl rfl rfl hd19) <| rv 24 rfl rfl rfl (q_cvtI (a := d19) rfl Tryz.underlying61 Tryz.underlying2 rfl) <| zm 25 (.int .u64 (r18)) rfl rfl <| rv 26 rfl rfl rfl (q_and (a := r18) (b := (1 : Int)) rfl rfl rfl) <| rv 27 rfl rfl rfl (q_cvtI (a := (bits .and .u64 r18 (1 : Int))) rfl Tryz.underlying61 Tryz.underlying2 rfl) <| rv 28 rfl rfl rfl (q_neg (a := (IntKind.i64.wrap (bits .and .u64 r18 (1 : Int)))) rfl rfl) <| rv 29 rfl rfl rfl (q_xor (a := (IntKind.i64.wrap d19)) (b := (IntKind.i64.wrap (0 - (IntKind.i64.wrap (bits .and .u64 r18 (1 : Int)))))) rfl rfl rfl) <| zf 30 a6 2 Tryz.underlying64 ok2 rfl rfl rfl ?_
    obtain ⟨w20, hw20, hrw20, h⟩ := st_open h
    refine ro_skip (d := none) rfl (.free rfl) rfl (q_store (T := (tInt .i64)) (u := (bits .xor .i64 (IntKind.i64.wrap d19) (IntKind.i64.wrap (0 - (IntKind.i64.wrap (bits .and .u64 r18 (1 : Int))))))) (a := (a6.add 2)) rfl ok2 rfl rfl hrw20 hw20) <| ro_nil ?_
    exact ⟨(), _, arr (upd_step (upd_step rfl rfl) rfl), h⟩
   ·refine wp_seq <| wp_text [0, 1] rfl <| rv 32 rfl rfl rfl (q_eql (a := x13) (b := (3 : Int)) rfl rfl rfl) <| za 31 (.bool ((x13 == (3 : Int)))) rfl rfl <| ro_nil <| zi h rfl (fun _ h => ?_) fun _ h => ?_
    ·refine wp_text [0, 1, 2, 3] rfl <| zm 33 (.pointer (r_1)) rfl rfl <| ro_wp rfl (.free rfl) (wp_clp (d := (some 34)) rfl (q_call (k := 97) (l := [.pointer (r_1)]) rfl ent97 rfl) h ?_ ?_)
     ·exact fun _ _ h => pan_ok (P := Tryz.prog) (fn := Tryz.f60) h
     intro r22 w21 h
     refine zf 35 a6 3 Tryz.underlying64 ok40 rfl rfl rfl ?_
     obtain ⟨w23, hw23, hrw23, h⟩ := st_open h
     refine ro_skip (d := none) rfl (.free rfl) rfl (q_store (T := tFlt) (u := r22) (a := (a6.add 3)) rfl ok40 rfl rfl hrw23 hw23) <| ro_nil ?_
     exact ⟨(), _, arr (upd_step (upd_step rfl rfl) rfl), h⟩
    ·refine wp_seq <| wp_text [0, 1] rfl <| rv 37 rfl rfl rfl (q_eql (a := x13) (b := (4 : Int)) rfl rfl rfl) <| za 36 (.bool ((x13 == (4 : Int)))) rfl rfl <| ro_nil <| zi h rfl (fun _ h => ?_) fun _ h => ?_
     ·refine wp_text [0, 1, 2, 3] rfl <| zm 38 (.pointer (r_1)) rfl rfl <| ro_wp rfl (.free rfl) (wp_clp (d := (some 39)) rfl (q_call (k := 98) (l := [.pointer (r_1)]) rfl ent98 rfl) h ?_ ?_)
      ·exact fun _ _ h => pan_ok (P := Tryz.prog) (fn := Tryz.f60) h
      intro r25 w24 h
      refine zf 40 a6 4 Tryz.underlying64 ok9 rfl rfl rfl ?_
      obtain ⟨w26, hw26, hrw26, h⟩ := st_open h
      refine ro_skip (d := none) rfl (.free rfl) rfl (q_store (T := tStr) (u := r25) (a := (a6.add 4)) rfl ok9 rfl rfl hrw26 hw26) <| ro_nil ?_
      exact ⟨(), _, arr (upd_step (upd_step rfl rfl) rfl), h⟩
     ·refine wp_text [0, 1, 2] rfl <| rv 11 rfl rfl rfl (q_build131_0 (v0 := (21 : Int)) rfl rfl) <| rv 12 rfl rfl rfl (q_mkI (v := T130.enc ((⟨(21 : Int)⟩ : S130))) rfl Tryz.underlying131 rfl rfl) <| ro_wp rfl (.free rfl) (wp_panic (v := (Iv.mk 131 (T130.enc ((⟨(21 : Int)⟩ : S130))))) rfl rfl ⟨_, _, rfl⟩ ?_)
      exact pan_ok (P := Tryz.prog) (fn := Tryz.f60) h
end Go.Proofs.YtehclfjjjiiieaaGreat.Cf
