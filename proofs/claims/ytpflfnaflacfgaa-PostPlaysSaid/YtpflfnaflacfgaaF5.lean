/- Characteristic formulae of Go functions, and that they are. Printed by gen.py (own tool). -/
import Derived.Test.YtpflfnaflacfgaaTy
namespace Go.Proofs.Ytpflfnaflacfgaa.Cf
open Go
set_option maxRecDepth 100000
set_option maxHeartbeats 1000000
set_option linter.unusedVariables false
set_option linter.unusedSimpArgs false

-- moiety/moietylaw09.awake
def F10 (w : World) (R : Bool → World → Prop) : Prop :=
  cl Try.prog 9 [.int .i64 ((2 : Int))] (tTup2 tPtr (tInt .i64)) w fun r2 w1 =>
  if ((r2.2 != (0 : Int)) || r2.1.isNone) = true then (
    R false w1
  ) else (
    cl Try.prog 11 [.pointer (r2.1), .int .i64 ((0 : Int)), .int .i64 ((1 : Int)), .string ⟨(([97] : List UInt8)).toArray⟩] (tTup2 (tInt .i64) (tInt .i64)) w1 fun r4 w3 =>
    cl Try.prog 11 [.pointer (r2.1), .int .i64 ((1 : Int)), .int .i64 ((0 : Int)), .string ⟨(([98] : List UInt8)).toArray⟩] (tTup2 (tInt .i64) (tInt .i64)) w3 fun r6 w5 =>
    cl Try.prog 16 [.pointer (r2.1), .int .i64 ((0 : Int))] (tInt .i64) w5 fun r8 w7 =>
    cl Try.prog 14 [.pointer (r2.1), .int .i64 ((1 : Int))] (tTup2 T35 (tInt .i64)) w7 fun r10 w9 =>
    nw 36 T35 Z35 w9 fun a11 w12 =>
    st T35 a11 r10.1 w12 fun w13 =>
    cl Try.prog 13 [.pointer (r2.1)] tSlc w13 fun r15 w14 =>
    cl Try.prog 12 [.pointer (r2.1), .int .i64 ((1 : Int)), .bool (true)] (tInt .i64) w14 fun r17 w16 =>
    cl Try.prog 14 [.pointer (r2.1), .int .i64 ((0 : Int))] (tTup2 T35 (tInt .i64)) w16 fun r19 w18 =>
    nw 36 T35 Z35 w18 fun a20 w21 =>
    st T35 a20 r19.1 w21 fun w22 =>
    ex (fun x => ((((((r4.1 == (1 : Int)) && (r4.2 == (0 : Int))) && (r6.1 == (2 : Int))) && (r6.2 == (0 : Int))) && (r8 == (0 : Int))) && (r10.2 == (0 : Int))) = true → (RdAt (tInt .i64) (a11.add 0) w22) x) fun x23 =>
    ex (fun x => (((((((r4.1 == (1 : Int)) && (r4.2 == (0 : Int))) && (r6.1 == (2 : Int))) && (r6.2 == (0 : Int))) && (r8 == (0 : Int))) && (r10.2 == (0 : Int))) && (x23 == (2 : Int))) = true → (RdAt (tInt .i64) (a11.add 1) w22) x) fun x24 =>
    ex (fun x => ((((((((r4.1 == (1 : Int)) && (r4.2 == (0 : Int))) && (r6.1 == (2 : Int))) && (r6.2 == (0 : Int))) && (r8 == (0 : Int))) && (r10.2 == (0 : Int))) && (x23 == (2 : Int))) && (x24 == (1 : Int))) = true → (RdAt tStr (a11.add 3) w22) x) fun x25 =>
    ex (fun x => ((((((((((r4.1 == (1 : Int)) && (r4.2 == (0 : Int))) && (r6.1 == (2 : Int))) && (r6.2 == (0 : Int))) && (r8 == (0 : Int))) && (r10.2 == (0 : Int))) && (x23 == (2 : Int))) && (x24 == (1 : Int))) && (x25 == ([98] : List UInt8))) && ((r15.len : Int) == (2 : Int))) = true → (IxA r15 4 (1 : Int)) x) fun a26 =>
    ex (fun x => ((((((((((r4.1 == (1 : Int)) && (r4.2 == (0 : Int))) && (r6.1 == (2 : Int))) && (r6.2 == (0 : Int))) && (r8 == (0 : Int))) && (r10.2 == (0 : Int))) && (x23 == (2 : Int))) && (x24 == (1 : Int))) && (x25 == ([98] : List UInt8))) && ((r15.len : Int) == (2 : Int))) = true → (RdAt (tInt .i64) (a26.add 0) w22) x) fun x27 =>
    R (((((((((((((r4.1 == (1 : Int)) && (r4.2 == (0 : Int))) && (r6.1 == (2 : Int))) && (r6.2 == (0 : Int))) && (r8 == (0 : Int))) && (r10.2 == (0 : Int))) && (x23 == (2 : Int))) && (x24 == (1 : Int))) && (x25 == ([98] : List UInt8))) && ((r15.len : Int) == (2 : Int))) && (x27 == (1 : Int))) && (r17 == (0 : Int))) && (r19.2 == (93 : Int))) w22
  )
theorem F10_ok {w : World} {R : Bool → World → Prop} (h : F10 w R) : cl Try.prog 10 [] tBool w R := by
  unfold F10 at h
  refine calls_start 107 Try.func10 rfl rfl (Nat.le_of_ble_eq_true rfl) ?_
  refine wp_seq ?_
  refine wp_text [0] rfl ?_
  refine ro_val (d := (some 0)) rfl (.free rfl) rfl (q_assign (v := .bool (false)) rfl rfl) ?_
  refine ro_nil ?_
  refine wp_seq ?_
  refine wp_text [0, 1, 2, 3, 4, 5] rfl ?_
  refine ro_wp rfl (.free rfl) (wp_cl (d := (some 15)) rfl (q_call (k := 9) (l := [.int .i64 ((2 : Int))]) rfl ent9 rfl) h ?_)
  intro r2 w1 h
  refine ro_val (d := (some 14)) rfl (.free rfl) rfl (q_move (v := (tTup2 tPtr (tInt .i64)).enc (r2)) rfl rfl) ?_
  refine ro_val (d := (some 16)) rfl (.free rfl) rfl (q_extract (vs := #[.pointer (r2.1), .int .i64 (r2.2)]) (v := .pointer (r2.1)) rfl rfl rfl) ?_
  refine ro_val (d := (some 17)) rfl (.free rfl) rfl (q_extract (vs := #[.pointer (r2.1), .int .i64 (r2.2)]) (v := .int .i64 (r2.2)) rfl rfl rfl) ?_
  refine ro_val (d := (some 1)) rfl (.free rfl) rfl (q_assign (v := .pointer (r2.1)) rfl rfl) ?_
  refine ro_val (d := (some 2)) rfl (.free rfl) rfl (q_assign (v := .int .i64 (r2.2)) rfl rfl) ?_
  refine ro_nil ?_
  refine wp_seq ?_
  refine wp_seq ?_
  refine wp_text [0, 1, 2, 3, 4, 5] rfl ?_
  refine ro_val (d := (some 18)) rfl (.free rfl) rfl (q_move (v := .int .i64 (r2.2)) rfl rfl) ?_
  refine ro_val (d := (some 19)) rfl (.free rfl) rfl (q_neq (a := r2.2) (b := (0 : Int)) rfl rfl rfl) ?_
  refine ro_val (d := (some 20)) rfl (.free rfl) rfl (q_move (v := .bool ((r2.2 != (0 : Int)))) rfl rfl) ?_
  refine ro_gval (g := (!(r2.2 != (0 : Int)))) (d := (some 21)) rfl (.no 2 20 true (r2.2 != (0 : Int)) rfl rfl rfl rfl) rfl (fun hg => q_move (v := .pointer (r2.1)) rfl rfl) ?_
  refine ro_gval (g := (!(r2.2 != (0 : Int)))) (d := (some 22)) rfl (.no 2 20 true (r2.2 != (0 : Int)) rfl rfl rfl rfl) rfl (fun hg => q_eqP0 (a := r2.1) rfl Try.underlying23 (gvb_yes hg) rfl) ?_
  refine ro_val (d := (some 23)) rfl (.free rfl) rfl (q_pickGF (a := (r2.2 != (0 : Int))) (c := r2.1.isNone) rfl rfl rfl rfl) ?_
  refine ro_nil ?_
  refine wp_if (b := ((r2.2 != (0 : Int)) || r2.1.isNone)) rfl h (fun hb28 h => ?_) (fun hb28 h => ?_)
  · refine wp_seq ?_
    refine wp_text [0] rfl ?_
    refine ro_val (d := (some 0)) rfl (.free rfl) rfl (q_assign (v := .bool (false)) rfl rfl) ?_
    refine ro_nil ?_
    refine wp_ret ?_
    exact ret_ok rfl (.cons (.tmp (v := .bool (false)) rfl) .nil) ⟨false, rfl, h⟩
  · refine wp_skip ?_
    refine wp_seq ?_
    refine wp_text [0, 1, 2, 3, 4, 5, 6] rfl ?_
    refine ro_val (d := (some 25)) rfl (.free rfl) rfl (q_move (v := .pointer (r2.1)) rfl rfl) ?_
    refine ro_wp rfl (.free rfl) (wp_cl (d := (some 26)) rfl (q_call (k := 11) (l := [.pointer (r2.1), .int .i64 ((0 : Int)), .int .i64 ((1 : Int)), .string ⟨(([97] : List UInt8)).toArray⟩]) rfl ent11 rfl) h ?_)
    intro r4 w3 h
    refine ro_val (d := (some 24)) rfl (.free rfl) rfl (q_move (v := (tTup2 (tInt .i64) (tInt .i64)).enc (r4)) rfl rfl) ?_
    refine ro_val (d := (some 27)) rfl (.free rfl) rfl (q_extract (vs := #[.int .i64 (r4.1), .int .i64 (r4.2)]) (v := .int .i64 (r4.1)) rfl rfl rfl) ?_
    refine ro_val (d := (some 28)) rfl (.free rfl) rfl (q_extract (vs := #[.int .i64 (r4.1), .int .i64 (r4.2)]) (v := .int .i64 (r4.2)) rfl rfl rfl) ?_
    refine ro_val (d := (some 3)) rfl (.free rfl) rfl (q_assign (v := .int .i64 (r4.1)) rfl rfl) ?_
    refine ro_val (d := (some 4)) rfl (.free rfl) rfl (q_assign (v := .int .i64 (r4.2)) rfl rfl) ?_
    refine ro_nil ?_
    refine wp_seq ?_
    refine wp_text [0, 1, 2, 3, 4, 5, 6] rfl ?_
    refine ro_val (d := (some 30)) rfl (.free rfl) rfl (q_move (v := .pointer (r2.1)) rfl rfl) ?_
    refine ro_wp rfl (.free rfl) (wp_cl (d := (some 31)) rfl (q_call (k := 11) (l := [.pointer (r2.1), .int .i64 ((1 : Int)), .int .i64 ((0 : Int)), .string ⟨(([98] : List UInt8)).toArray⟩]) rfl ent11 rfl) h ?_)
    intro r6 w5 h
    refine ro_val (d := (some 29)) rfl (.free rfl) rfl (q_move (v := (tTup2 (tInt .i64) (tInt .i64)).enc (r6)) rfl rfl) ?_
    refine ro_val (d := (some 32)) rfl (.free rfl) rfl (q_extract (vs := #[.int .i64 (r6.1), .int .i64 (r6.2)]) (v := .int .i64 (r6.1)) rfl rfl rfl) ?_
    refine ro_val (d := (some 33)) rfl (.free rfl) rfl (q_extract (vs := #[.int .i64 (r6.1), .int .i64 (r6.2)]) (v := .int .i64 (r6.2)) rfl rfl rfl) ?_
    refine ro_val (d := (some 5)) rfl (.free rfl) rfl (q_assign (v := .int .i64 (r6.1)) rfl rfl) ?_
    refine ro_val (d := (some 6)) rfl (.free rfl) rfl (q_assign (v := .int .i64 (r6.2)) rfl rfl) ?_
    refine ro_nil ?_
    refine wp_seq ?_
    refine wp_text [0, 1, 2] rfl ?_
    refine ro_val (d := (some 34)) rfl (.free rfl) rfl (q_move (v := .pointer (r2.1)) rfl rfl) ?_
    refine ro_wp rfl (.free rfl) (wp_cl (d := (some 35)) rfl (q_call (k := 16) (l := [.pointer (r2.1), .int .i64 ((0 : Int))]) rfl ent16 rfl) h ?_)
    intro r8 w7 h
    refine ro_val (d := (some 7)) rfl (.free rfl) rfl (q_assign (v := .int .i64 (r8)) rfl rfl) ?_
    refine ro_nil ?_
    refine wp_seq ?_
    refine wp_text [0, 1, 2, 3, 4, 5, 6, 7] rfl ?_
    refine ro_val (d := (some 37)) rfl (.free rfl) rfl (q_move (v := .pointer (r2.1)) rfl rfl) ?_
    refine ro_wp rfl (.free rfl) (wp_cl (d := (some 38)) rfl (q_call (k := 14) (l := [.pointer (r2.1), .int .i64 ((1 : Int))]) rfl ent14 rfl) h ?_)
    intro r10 w9 h
    refine ro_val (d := (some 36)) rfl (.free rfl) rfl (q_move (v := (tTup2 T35 (tInt .i64)).enc (r10)) rfl rfl) ?_
    refine ro_val (d := (some 39)) rfl (.free rfl) rfl (q_extract (vs := #[T35.enc (r10.1), .int .i64 (r10.2)]) (v := T35.enc (r10.1)) rfl rfl rfl) ?_
    refine ro_val (d := (some 40)) rfl (.free rfl) rfl (q_extract (vs := #[T35.enc (r10.1), .int .i64 (r10.2)]) (v := .int .i64 (r10.2)) rfl rfl rfl) ?_
    obtain ⟨a11, w12, ha11, hw12, h⟩ := nw_open h
    refine ro_val (d := (some 8)) rfl (.free rfl) rfl (q_alloc (u := Z35) rfl ok36 inf36 ha11 hw12) ?_
    obtain ⟨w13, hw13, hrw13, h⟩ := st_open h
    refine ro_skip (d := none) rfl (.free rfl) rfl (q_store (T := T35) (u := r10.1) (a := a11) rfl ok36 rfl rfl hrw13 hw13) ?_
    refine ro_val (d := (some 9)) rfl (.free rfl) rfl (q_assign (v := .int .i64 (r10.2)) rfl rfl) ?_
    refine ro_nil ?_
    refine wp_seq ?_
    refine wp_text [0, 1, 2] rfl ?_
    refine ro_val (d := (some 41)) rfl (.free rfl) rfl (q_move (v := .pointer (r2.1)) rfl rfl) ?_
    refine ro_wp rfl (.free rfl) (wp_cl (d := (some 42)) rfl (q_call (k := 13) (l := [.pointer (r2.1)]) rfl ent13 rfl) h ?_)
    intro r15 w14 h
    refine ro_val (d := (some 10)) rfl (.free rfl) rfl (q_assign (v := tSlc.enc (r15)) rfl rfl) ?_
    refine ro_nil ?_
    refine wp_seq ?_
    refine wp_text [0, 1, 2] rfl ?_
    refine ro_val (d := (some 43)) rfl (.free rfl) rfl (q_move (v := .pointer (r2.1)) rfl rfl) ?_
    refine ro_wp rfl (.free rfl) (wp_cl (d := (some 44)) rfl (q_call (k := 12) (l := [.pointer (r2.1), .int .i64 ((1 : Int)), .bool (true)]) rfl ent12 rfl) h ?_)
    intro r17 w16 h
    refine ro_val (d := (some 11)) rfl (.free rfl) rfl (q_assign (v := .int .i64 (r17)) rfl rfl) ?_
    refine ro_nil ?_
    refine wp_seq ?_
    refine wp_text [0, 1, 2, 3, 4, 5, 6, 7] rfl ?_
    refine ro_val (d := (some 46)) rfl (.free rfl) rfl (q_move (v := .pointer (r2.1)) rfl rfl) ?_
    refine ro_wp rfl (.free rfl) (wp_cl (d := (some 47)) rfl (q_call (k := 14) (l := [.pointer (r2.1), .int .i64 ((0 : Int))]) rfl ent14 rfl) h ?_)
    intro r19 w18 h
    refine ro_val (d := (some 45)) rfl (.free rfl) rfl (q_move (v := (tTup2 T35 (tInt .i64)).enc (r19)) rfl rfl) ?_
    refine ro_val (d := (some 48)) rfl (.free rfl) rfl (q_extract (vs := #[T35.enc (r19.1), .int .i64 (r19.2)]) (v := T35.enc (r19.1)) rfl rfl rfl) ?_
    refine ro_val (d := (some 49)) rfl (.free rfl) rfl (q_extract (vs := #[T35.enc (r19.1), .int .i64 (r19.2)]) (v := .int .i64 (r19.2)) rfl rfl rfl) ?_
    obtain ⟨a20, w21, ha20, hw21, h⟩ := nw_open h
    refine ro_val (d := (some 12)) rfl (.free rfl) rfl (q_alloc (u := Z35) rfl ok36 inf36 ha20 hw21) ?_
    obtain ⟨w22, hw22, hrw22, h⟩ := st_open h
    refine ro_skip (d := none) rfl (.free rfl) rfl (q_store (T := T35) (u := r19.1) (a := a20) rfl ok36 rfl rfl hrw22 hw22) ?_
    refine ro_val (d := (some 13)) rfl (.free rfl) rfl (q_assign (v := .int .i64 (r19.2)) rfl rfl) ?_
    refine ro_nil ?_
    refine wp_seq ?_
    refine wp_text [0, 1, 2, 3, 4, 5, 6, 7, 8, 9, 10, 11, 12, 13, 14, 15, 16, 17, 18, 19, 20, 21, 22, 23, 24, 25, 26, 27, 28, 29, 30, 31, 32, 33, 34, 35, 36, 37, 38, 39, 40, 41, 42, 43, 44, 45, 46, 47, 48, 49, 50, 51, 52, 53, 54, 55, 56, 57] rfl ?_
    refine ro_val (d := (some 50)) rfl (.free rfl) rfl (q_move (v := .int .i64 (r4.1)) rfl rfl) ?_
    refine ro_val (d := (some 51)) rfl (.free rfl) rfl (q_eql (a := r4.1) (b := (1 : Int)) rfl rfl rfl) ?_
    refine ro_val (d := (some 52)) rfl (.free rfl) rfl (q_move (v := .bool ((r4.1 == (1 : Int)))) rfl rfl) ?_
    refine ro_gval (g := (r4.1 == (1 : Int))) (d := (some 53)) rfl (.yes 2 52 true (r4.1 == (1 : Int)) rfl rfl rfl rfl) rfl (fun hg => q_move (v := .int .i64 (r4.2)) rfl rfl) ?_
    refine ro_gval (g := (r4.1 == (1 : Int))) (d := (some 54)) rfl (.yes 2 52 true (r4.1 == (1 : Int)) rfl rfl rfl rfl) rfl (fun hg => q_eql (a := r4.2) (b := (0 : Int)) rfl (gvb_yes hg) rfl) ?_
    refine ro_val (d := (some 55)) rfl (.free rfl) rfl (q_pickGT (a := (r4.1 == (1 : Int))) (b := (r4.2 == (0 : Int))) rfl rfl rfl rfl) ?_
    refine ro_val (d := (some 56)) rfl (.free rfl) rfl (q_move (v := .bool (((r4.1 == (1 : Int)) && (r4.2 == (0 : Int))))) rfl rfl) ?_
    refine ro_gval (g := ((r4.1 == (1 : Int)) && (r4.2 == (0 : Int)))) (d := (some 57)) rfl (.yes 6 56 true ((r4.1 == (1 : Int)) && (r4.2 == (0 : Int))) rfl rfl rfl rfl) rfl (fun hg => q_move (v := .int .i64 (r6.1)) rfl rfl) ?_
    refine ro_gval (g := ((r4.1 == (1 : Int)) && (r4.2 == (0 : Int)))) (d := (some 58)) rfl (.yes 6 56 true ((r4.1 == (1 : Int)) && (r4.2 == (0 : Int))) rfl rfl rfl rfl) rfl (fun hg => q_eql (a := r6.1) (b := (2 : Int)) rfl (gvb_yes hg) rfl) ?_
    refine ro_val (d := (some 59)) rfl (.free rfl) rfl (q_pickGT (a := ((r4.1 == (1 : Int)) && (r4.2 == (0 : Int)))) (b := (r6.1 == (2 : Int))) rfl rfl rfl rfl) ?_
    refine ro_val (d := (some 60)) rfl (.free rfl) rfl (q_move (v := .bool ((((r4.1 == (1 : Int)) && (r4.2 == (0 : Int))) && (r6.1 == (2 : Int))))) rfl rfl) ?_
    refine ro_gval (g := (((r4.1 == (1 : Int)) && (r4.2 == (0 : Int))) && (r6.1 == (2 : Int)))) (d := (some 61)) rfl (.yes 10 60 true (((r4.1 == (1 : Int)) && (r4.2 == (0 : Int))) && (r6.1 == (2 : Int))) rfl rfl rfl rfl) rfl (fun hg => q_move (v := .int .i64 (r6.2)) rfl rfl) ?_
    refine ro_gval (g := (((r4.1 == (1 : Int)) && (r4.2 == (0 : Int))) && (r6.1 == (2 : Int)))) (d := (some 62)) rfl (.yes 10 60 true (((r4.1 == (1 : Int)) && (r4.2 == (0 : Int))) && (r6.1 == (2 : Int))) rfl rfl rfl rfl) rfl (fun hg => q_eql (a := r6.2) (b := (0 : Int)) rfl (gvb_yes hg) rfl) ?_
    refine ro_val (d := (some 63)) rfl (.free rfl) rfl (q_pickGT (a := (((r4.1 == (1 : Int)) && (r4.2 == (0 : Int))) && (r6.1 == (2 : Int)))) (b := (r6.2 == (0 : Int))) rfl rfl rfl rfl) ?_
    refine ro_val (d := (some 64)) rfl (.free rfl) rfl (q_move (v := .bool (((((r4.1 == (1 : Int)) && (r4.2 == (0 : Int))) && (r6.1 == (2 : Int))) && (r6.2 == (0 : Int))))) rfl rfl) ?_
    refine ro_gval (g := ((((r4.1 == (1 : Int)) && (r4.2 == (0 : Int))) && (r6.1 == (2 : Int))) && (r6.2 == (0 : Int)))) (d := (some 65)) rfl (.yes 14 64 true ((((r4.1 == (1 : Int)) && (r4.2 == (0 : Int))) && (r6.1 == (2 : Int))) && (r6.2 == (0 : Int))) rfl rfl rfl rfl) rfl (fun hg => q_move (v := .int .i64 (r8)) rfl rfl) ?_
    refine ro_gval (g := ((((r4.1 == (1 : Int)) && (r4.2 == (0 : Int))) && (r6.1 == (2 : Int))) && (r6.2 == (0 : Int)))) (d := (some 66)) rfl (.yes 14 64 true ((((r4.1 == (1 : Int)) && (r4.2 == (0 : Int))) && (r6.1 == (2 : Int))) && (r6.2 == (0 : Int))) rfl rfl rfl rfl) rfl (fun hg => q_eql (a := r8) (b := (0 : Int)) rfl (gvb_yes hg) rfl) ?_
    refine ro_val (d := (some 67)) rfl (.free rfl) rfl (q_pickGT (a := ((((r4.1 == (1 : Int)) && (r4.2 == (0 : Int))) && (r6.1 == (2 : Int))) && (r6.2 == (0 : Int)))) (b := (r8 == (0 : Int))) rfl rfl rfl rfl) ?_
    refine ro_val (d := (some 68)) rfl (.free rfl) rfl (q_move (v := .bool ((((((r4.1 == (1 : Int)) && (r4.2 == (0 : Int))) && (r6.1 == (2 : Int))) && (r6.2 == (0 : Int))) && (r8 == (0 : Int))))) rfl rfl) ?_
    refine ro_gval (g := (((((r4.1 == (1 : Int)) && (r4.2 == (0 : Int))) && (r6.1 == (2 : Int))) && (r6.2 == (0 : Int))) && (r8 == (0 : Int)))) (d := (some 69)) rfl (.yes 18 68 true (((((r4.1 == (1 : Int)) && (r4.2 == (0 : Int))) && (r6.1 == (2 : Int))) && (r6.2 == (0 : Int))) && (r8 == (0 : Int))) rfl rfl rfl rfl) rfl (fun hg => q_move (v := .int .i64 (r10.2)) rfl rfl) ?_
    refine ro_gval (g := (((((r4.1 == (1 : Int)) && (r4.2 == (0 : Int))) && (r6.1 == (2 : Int))) && (r6.2 == (0 : Int))) && (r8 == (0 : Int)))) (d := (some 70)) rfl (.yes 18 68 true (((((r4.1 == (1 : Int)) && (r4.2 == (0 : Int))) && (r6.1 == (2 : Int))) && (r6.2 == (0 : Int))) && (r8 == (0 : Int))) rfl rfl rfl rfl) rfl (fun hg => q_eql (a := r10.2) (b := (0 : Int)) rfl (gvb_yes hg) rfl) ?_
    refine ro_val (d := (some 71)) rfl (.free rfl) rfl (q_pickGT (a := (((((r4.1 == (1 : Int)) && (r4.2 == (0 : Int))) && (r6.1 == (2 : Int))) && (r6.2 == (0 : Int))) && (r8 == (0 : Int)))) (b := (r10.2 == (0 : Int))) rfl rfl rfl rfl) ?_
    refine ro_val (d := (some 72)) rfl (.free rfl) rfl (q_move (v := .bool (((((((r4.1 == (1 : Int)) && (r4.2 == (0 : Int))) && (r6.1 == (2 : Int))) && (r6.2 == (0 : Int))) && (r8 == (0 : Int))) && (r10.2 == (0 : Int))))) rfl rfl) ?_
    refine ro_gval (g := ((((((r4.1 == (1 : Int)) && (r4.2 == (0 : Int))) && (r6.1 == (2 : Int))) && (r6.2 == (0 : Int))) && (r8 == (0 : Int))) && (r10.2 == (0 : Int)))) (d := (some 73)) rfl (.yes 22 72 true ((((((r4.1 == (1 : Int)) && (r4.2 == (0 : Int))) && (r6.1 == (2 : Int))) && (r6.2 == (0 : Int))) && (r8 == (0 : Int))) && (r10.2 == (0 : Int))) rfl rfl rfl rfl) rfl (fun hg => q_fieldAddr (a := a11) (off := 0) rfl Try.underlying36 rfl rfl ok3 (by decide) rfl) ?_
    obtain ⟨x23, hx23, h⟩ := h
    refine ro_gval (g := ((((((r4.1 == (1 : Int)) && (r4.2 == (0 : Int))) && (r6.1 == (2 : Int))) && (r6.2 == (0 : Int))) && (r8 == (0 : Int))) && (r10.2 == (0 : Int)))) (d := (some 74)) rfl (.yes 22 72 true ((((((r4.1 == (1 : Int)) && (r4.2 == (0 : Int))) && (r6.1 == (2 : Int))) && (r6.2 == (0 : Int))) && (r8 == (0 : Int))) && (r10.2 == (0 : Int))) rfl rfl rfl rfl) rfl (fun hg => q_load (T := (tInt .i64)) (u := x23) (a := (a11.add 0)) rfl ok3 (gvb_yes hg) (hx23 hg)) ?_
    refine ro_gval (g := ((((((r4.1 == (1 : Int)) && (r4.2 == (0 : Int))) && (r6.1 == (2 : Int))) && (r6.2 == (0 : Int))) && (r8 == (0 : Int))) && (r10.2 == (0 : Int)))) (d := (some 75)) rfl (.yes 22 72 true ((((((r4.1 == (1 : Int)) && (r4.2 == (0 : Int))) && (r6.1 == (2 : Int))) && (r6.2 == (0 : Int))) && (r8 == (0 : Int))) && (r10.2 == (0 : Int))) rfl rfl rfl rfl) rfl (fun hg => q_eql (a := x23) (b := (2 : Int)) rfl (gvb_yes hg) rfl) ?_
    refine ro_val (d := (some 76)) rfl (.free rfl) rfl (q_pickGT (a := ((((((r4.1 == (1 : Int)) && (r4.2 == (0 : Int))) && (r6.1 == (2 : Int))) && (r6.2 == (0 : Int))) && (r8 == (0 : Int))) && (r10.2 == (0 : Int)))) (b := (x23 == (2 : Int))) rfl rfl rfl rfl) ?_
    refine ro_val (d := (some 77)) rfl (.free rfl) rfl (q_move (v := .bool ((((((((r4.1 == (1 : Int)) && (r4.2 == (0 : Int))) && (r6.1 == (2 : Int))) && (r6.2 == (0 : Int))) && (r8 == (0 : Int))) && (r10.2 == (0 : Int))) && (x23 == (2 : Int))))) rfl rfl) ?_
    refine ro_gval (g := (((((((r4.1 == (1 : Int)) && (r4.2 == (0 : Int))) && (r6.1 == (2 : Int))) && (r6.2 == (0 : Int))) && (r8 == (0 : Int))) && (r10.2 == (0 : Int))) && (x23 == (2 : Int)))) (d := (some 78)) rfl (.yes 27 77 true (((((((r4.1 == (1 : Int)) && (r4.2 == (0 : Int))) && (r6.1 == (2 : Int))) && (r6.2 == (0 : Int))) && (r8 == (0 : Int))) && (r10.2 == (0 : Int))) && (x23 == (2 : Int))) rfl rfl rfl rfl) rfl (fun hg => q_fieldAddr (a := a11) (off := 1) rfl Try.underlying36 rfl rfl ok3 (by decide) rfl) ?_
    obtain ⟨x24, hx24, h⟩ := h
    refine ro_gval (g := (((((((r4.1 == (1 : Int)) && (r4.2 == (0 : Int))) && (r6.1 == (2 : Int))) && (r6.2 == (0 : Int))) && (r8 == (0 : Int))) && (r10.2 == (0 : Int))) && (x23 == (2 : Int)))) (d := (some 79)) rfl (.yes 27 77 true (((((((r4.1 == (1 : Int)) && (r4.2 == (0 : Int))) && (r6.1 == (2 : Int))) && (r6.2 == (0 : Int))) && (r8 == (0 : Int))) && (r10.2 == (0 : Int))) && (x23 == (2 : Int))) rfl rfl rfl rfl) rfl (fun hg => q_load (T := (tInt .i64)) (u := x24) (a := (a11.add 1)) rfl ok3 (gvb_yes hg) (hx24 hg)) ?_
    refine ro_gval (g := (((((((r4.1 == (1 : Int)) && (r4.2 == (0 : Int))) && (r6.1 == (2 : Int))) && (r6.2 == (0 : Int))) && (r8 == (0 : Int))) && (r10.2 == (0 : Int))) && (x23 == (2 : Int)))) (d := (some 80)) rfl (.yes 27 77 true (((((((r4.1 == (1 : Int)) && (r4.2 == (0 : Int))) && (r6.1 == (2 : Int))) && (r6.2 == (0 : Int))) && (r8 == (0 : Int))) && (r10.2 == (0 : Int))) && (x23 == (2 : Int))) rfl rfl rfl rfl) rfl (fun hg => q_eql (a := x24) (b := (1 : Int)) rfl (gvb_yes hg) rfl) ?_
    refine ro_val (d := (some 81)) rfl (.free rfl) rfl (q_pickGT (a := (((((((r4.1 == (1 : Int)) && (r4.2 == (0 : Int))) && (r6.1 == (2 : Int))) && (r6.2 == (0 : Int))) && (r8 == (0 : Int))) && (r10.2 == (0 : Int))) && (x23 == (2 : Int)))) (b := (x24 == (1 : Int))) rfl rfl rfl rfl) ?_
    refine ro_val (d := (some 82)) rfl (.free rfl) rfl (q_move (v := .bool (((((((((r4.1 == (1 : Int)) && (r4.2 == (0 : Int))) && (r6.1 == (2 : Int))) && (r6.2 == (0 : Int))) && (r8 == (0 : Int))) && (r10.2 == (0 : Int))) && (x23 == (2 : Int))) && (x24 == (1 : Int))))) rfl rfl) ?_
    refine ro_gval (g := ((((((((r4.1 == (1 : Int)) && (r4.2 == (0 : Int))) && (r6.1 == (2 : Int))) && (r6.2 == (0 : Int))) && (r8 == (0 : Int))) && (r10.2 == (0 : Int))) && (x23 == (2 : Int))) && (x24 == (1 : Int)))) (d := (some 83)) rfl (.yes 32 82 true ((((((((r4.1 == (1 : Int)) && (r4.2 == (0 : Int))) && (r6.1 == (2 : Int))) && (r6.2 == (0 : Int))) && (r8 == (0 : Int))) && (r10.2 == (0 : Int))) && (x23 == (2 : Int))) && (x24 == (1 : Int))) rfl rfl rfl rfl) rfl (fun hg => q_fieldAddr (a := a11) (off := 3) rfl Try.underlying36 rfl rfl ok9 (by decide) rfl) ?_
    obtain ⟨x25, hx25, h⟩ := h
    refine ro_gval (g := ((((((((r4.1 == (1 : Int)) && (r4.2 == (0 : Int))) && (r6.1 == (2 : Int))) && (r6.2 == (0 : Int))) && (r8 == (0 : Int))) && (r10.2 == (0 : Int))) && (x23 == (2 : Int))) && (x24 == (1 : Int)))) (d := (some 84)) rfl (.yes 32 82 true ((((((((r4.1 == (1 : Int)) && (r4.2 == (0 : Int))) && (r6.1 == (2 : Int))) && (r6.2 == (0 : Int))) && (r8 == (0 : Int))) && (r10.2 == (0 : Int))) && (x23 == (2 : Int))) && (x24 == (1 : Int))) rfl rfl rfl rfl) rfl (fun hg => q_load (T := tStr) (u := x25) (a := (a11.add 3)) rfl ok9 (gvb_yes hg) (hx25 hg)) ?_
    refine ro_gval (g := ((((((((r4.1 == (1 : Int)) && (r4.2 == (0 : Int))) && (r6.1 == (2 : Int))) && (r6.2 == (0 : Int))) && (r8 == (0 : Int))) && (r10.2 == (0 : Int))) && (x23 == (2 : Int))) && (x24 == (1 : Int)))) (d := (some 85)) rfl (.yes 32 82 true ((((((((r4.1 == (1 : Int)) && (r4.2 == (0 : Int))) && (r6.1 == (2 : Int))) && (r6.2 == (0 : Int))) && (r8 == (0 : Int))) && (r10.2 == (0 : Int))) && (x23 == (2 : Int))) && (x24 == (1 : Int))) rfl rfl rfl rfl) rfl (fun hg => q_eqS (a := x25) (b := ([98] : List UInt8)) rfl (gvb_yes hg) rfl) ?_
    refine ro_val (d := (some 86)) rfl (.free rfl) rfl (q_pickGT (a := ((((((((r4.1 == (1 : Int)) && (r4.2 == (0 : Int))) && (r6.1 == (2 : Int))) && (r6.2 == (0 : Int))) && (r8 == (0 : Int))) && (r10.2 == (0 : Int))) && (x23 == (2 : Int))) && (x24 == (1 : Int)))) (b := (x25 == ([98] : List UInt8))) rfl rfl rfl rfl) ?_
    refine ro_val (d := (some 87)) rfl (.free rfl) rfl (q_move (v := .bool ((((((((((r4.1 == (1 : Int)) && (r4.2 == (0 : Int))) && (r6.1 == (2 : Int))) && (r6.2 == (0 : Int))) && (r8 == (0 : Int))) && (r10.2 == (0 : Int))) && (x23 == (2 : Int))) && (x24 == (1 : Int))) && (x25 == ([98] : List UInt8))))) rfl rfl) ?_
    refine ro_gval (g := (((((((((r4.1 == (1 : Int)) && (r4.2 == (0 : Int))) && (r6.1 == (2 : Int))) && (r6.2 == (0 : Int))) && (r8 == (0 : Int))) && (r10.2 == (0 : Int))) && (x23 == (2 : Int))) && (x24 == (1 : Int))) && (x25 == ([98] : List UInt8)))) (d := (some 88)) rfl (.yes 37 87 true (((((((((r4.1 == (1 : Int)) && (r4.2 == (0 : Int))) && (r6.1 == (2 : Int))) && (r6.2 == (0 : Int))) && (r8 == (0 : Int))) && (r10.2 == (0 : Int))) && (x23 == (2 : Int))) && (x24 == (1 : Int))) && (x25 == ([98] : List UInt8))) rfl rfl rfl rfl) rfl (fun hg => q_move (v := tSlc.enc (r15)) rfl rfl) ?_
    refine ro_gval (g := (((((((((r4.1 == (1 : Int)) && (r4.2 == (0 : Int))) && (r6.1 == (2 : Int))) && (r6.2 == (0 : Int))) && (r8 == (0 : Int))) && (r10.2 == (0 : Int))) && (x23 == (2 : Int))) && (x24 == (1 : Int))) && (x25 == ([98] : List UInt8)))) (d := (some 89)) rfl (.yes 37 87 true (((((((((r4.1 == (1 : Int)) && (r4.2 == (0 : Int))) && (r6.1 == (2 : Int))) && (r6.2 == (0 : Int))) && (r8 == (0 : Int))) && (r10.2 == (0 : Int))) && (x23 == (2 : Int))) && (x24 == (1 : Int))) && (x25 == ([98] : List UInt8))) rfl rfl rfl rfl) rfl (fun hg => q_len (s := r15) rfl Try.underlying33 (gvb_yes hg)) ?_
    refine ro_gval (g := (((((((((r4.1 == (1 : Int)) && (r4.2 == (0 : Int))) && (r6.1 == (2 : Int))) && (r6.2 == (0 : Int))) && (r8 == (0 : Int))) && (r10.2 == (0 : Int))) && (x23 == (2 : Int))) && (x24 == (1 : Int))) && (x25 == ([98] : List UInt8)))) (d := (some 90)) rfl (.yes 37 87 true (((((((((r4.1 == (1 : Int)) && (r4.2 == (0 : Int))) && (r6.1 == (2 : Int))) && (r6.2 == (0 : Int))) && (r8 == (0 : Int))) && (r10.2 == (0 : Int))) && (x23 == (2 : Int))) && (x24 == (1 : Int))) && (x25 == ([98] : List UInt8))) rfl rfl rfl rfl) rfl (fun hg => q_eql (a := (r15.len : Int)) (b := (2 : Int)) rfl (gvb_yes hg) rfl) ?_
    refine ro_val (d := (some 91)) rfl (.free rfl) rfl (q_pickGT (a := (((((((((r4.1 == (1 : Int)) && (r4.2 == (0 : Int))) && (r6.1 == (2 : Int))) && (r6.2 == (0 : Int))) && (r8 == (0 : Int))) && (r10.2 == (0 : Int))) && (x23 == (2 : Int))) && (x24 == (1 : Int))) && (x25 == ([98] : List UInt8)))) (b := ((r15.len : Int) == (2 : Int))) rfl rfl rfl rfl) ?_
    refine ro_val (d := (some 92)) rfl (.free rfl) rfl (q_move (v := .bool (((((((((((r4.1 == (1 : Int)) && (r4.2 == (0 : Int))) && (r6.1 == (2 : Int))) && (r6.2 == (0 : Int))) && (r8 == (0 : Int))) && (r10.2 == (0 : Int))) && (x23 == (2 : Int))) && (x24 == (1 : Int))) && (x25 == ([98] : List UInt8))) && ((r15.len : Int) == (2 : Int))))) rfl rfl) ?_
    refine ro_gval (g := ((((((((((r4.1 == (1 : Int)) && (r4.2 == (0 : Int))) && (r6.1 == (2 : Int))) && (r6.2 == (0 : Int))) && (r8 == (0 : Int))) && (r10.2 == (0 : Int))) && (x23 == (2 : Int))) && (x24 == (1 : Int))) && (x25 == ([98] : List UInt8))) && ((r15.len : Int) == (2 : Int)))) (d := (some 93)) rfl (.yes 42 92 true ((((((((((r4.1 == (1 : Int)) && (r4.2 == (0 : Int))) && (r6.1 == (2 : Int))) && (r6.2 == (0 : Int))) && (r8 == (0 : Int))) && (r10.2 == (0 : Int))) && (x23 == (2 : Int))) && (x24 == (1 : Int))) && (x25 == ([98] : List UInt8))) && ((r15.len : Int) == (2 : Int))) rfl rfl rfl rfl) rfl (fun hg => q_move (v := tSlc.enc (r15)) rfl rfl) ?_
    obtain ⟨a26, ha26, h⟩ := h
    refine ro_gval (g := ((((((((((r4.1 == (1 : Int)) && (r4.2 == (0 : Int))) && (r6.1 == (2 : Int))) && (r6.2 == (0 : Int))) && (r8 == (0 : Int))) && (r10.2 == (0 : Int))) && (x23 == (2 : Int))) && (x24 == (1 : Int))) && (x25 == ([98] : List UInt8))) && ((r15.len : Int) == (2 : Int)))) (d := (some 94)) rfl (.yes 42 92 true ((((((((((r4.1 == (1 : Int)) && (r4.2 == (0 : Int))) && (r6.1 == (2 : Int))) && (r6.2 == (0 : Int))) && (r8 == (0 : Int))) && (r10.2 == (0 : Int))) && (x23 == (2 : Int))) && (x24 == (1 : Int))) && (x25 == ([98] : List UInt8))) && ((r15.len : Int) == (2 : Int))) rfl rfl rfl rfl) rfl (fun hg => q_indexAddr (s := r15) (i := (1 : Int)) rfl Try.underlying33 ok36 (gvb_yes hg) rfl (ha26 hg)) ?_
    refine ro_gval (g := ((((((((((r4.1 == (1 : Int)) && (r4.2 == (0 : Int))) && (r6.1 == (2 : Int))) && (r6.2 == (0 : Int))) && (r8 == (0 : Int))) && (r10.2 == (0 : Int))) && (x23 == (2 : Int))) && (x24 == (1 : Int))) && (x25 == ([98] : List UInt8))) && ((r15.len : Int) == (2 : Int)))) (d := (some 95)) rfl (.yes 42 92 true ((((((((((r4.1 == (1 : Int)) && (r4.2 == (0 : Int))) && (r6.1 == (2 : Int))) && (r6.2 == (0 : Int))) && (r8 == (0 : Int))) && (r10.2 == (0 : Int))) && (x23 == (2 : Int))) && (x24 == (1 : Int))) && (x25 == ([98] : List UInt8))) && ((r15.len : Int) == (2 : Int))) rfl rfl rfl rfl) rfl (fun hg => q_fieldAddr (a := a26) (off := 0) rfl Try.underlying36 rfl rfl ok3 (by decide) (gvb_yes hg)) ?_
    obtain ⟨x27, hx27, h⟩ := h
    refine ro_gval (g := ((((((((((r4.1 == (1 : Int)) && (r4.2 == (0 : Int))) && (r6.1 == (2 : Int))) && (r6.2 == (0 : Int))) && (r8 == (0 : Int))) && (r10.2 == (0 : Int))) && (x23 == (2 : Int))) && (x24 == (1 : Int))) && (x25 == ([98] : List UInt8))) && ((r15.len : Int) == (2 : Int)))) (d := (some 96)) rfl (.yes 42 92 true ((((((((((r4.1 == (1 : Int)) && (r4.2 == (0 : Int))) && (r6.1 == (2 : Int))) && (r6.2 == (0 : Int))) && (r8 == (0 : Int))) && (r10.2 == (0 : Int))) && (x23 == (2 : Int))) && (x24 == (1 : Int))) && (x25 == ([98] : List UInt8))) && ((r15.len : Int) == (2 : Int))) rfl rfl rfl rfl) rfl (fun hg => q_load (T := (tInt .i64)) (u := x27) (a := (a26.add 0)) rfl ok3 (gvb_yes hg) (hx27 hg)) ?_
    refine ro_gval (g := ((((((((((r4.1 == (1 : Int)) && (r4.2 == (0 : Int))) && (r6.1 == (2 : Int))) && (r6.2 == (0 : Int))) && (r8 == (0 : Int))) && (r10.2 == (0 : Int))) && (x23 == (2 : Int))) && (x24 == (1 : Int))) && (x25 == ([98] : List UInt8))) && ((r15.len : Int) == (2 : Int)))) (d := (some 97)) rfl (.yes 42 92 true ((((((((((r4.1 == (1 : Int)) && (r4.2 == (0 : Int))) && (r6.1 == (2 : Int))) && (r6.2 == (0 : Int))) && (r8 == (0 : Int))) && (r10.2 == (0 : Int))) && (x23 == (2 : Int))) && (x24 == (1 : Int))) && (x25 == ([98] : List UInt8))) && ((r15.len : Int) == (2 : Int))) rfl rfl rfl rfl) rfl (fun hg => q_eql (a := x27) (b := (1 : Int)) rfl (gvb_yes hg) rfl) ?_
    refine ro_val (d := (some 98)) rfl (.free rfl) rfl (q_pickGT (a := ((((((((((r4.1 == (1 : Int)) && (r4.2 == (0 : Int))) && (r6.1 == (2 : Int))) && (r6.2 == (0 : Int))) && (r8 == (0 : Int))) && (r10.2 == (0 : Int))) && (x23 == (2 : Int))) && (x24 == (1 : Int))) && (x25 == ([98] : List UInt8))) && ((r15.len : Int) == (2 : Int)))) (b := (x27 == (1 : Int))) rfl rfl rfl rfl) ?_
    refine ro_val (d := (some 99)) rfl (.free rfl) rfl (q_move (v := .bool ((((((((((((r4.1 == (1 : Int)) && (r4.2 == (0 : Int))) && (r6.1 == (2 : Int))) && (r6.2 == (0 : Int))) && (r8 == (0 : Int))) && (r10.2 == (0 : Int))) && (x23 == (2 : Int))) && (x24 == (1 : Int))) && (x25 == ([98] : List UInt8))) && ((r15.len : Int) == (2 : Int))) && (x27 == (1 : Int))))) rfl rfl) ?_
    refine ro_gval (g := (((((((((((r4.1 == (1 : Int)) && (r4.2 == (0 : Int))) && (r6.1 == (2 : Int))) && (r6.2 == (0 : Int))) && (r8 == (0 : Int))) && (r10.2 == (0 : Int))) && (x23 == (2 : Int))) && (x24 == (1 : Int))) && (x25 == ([98] : List UInt8))) && ((r15.len : Int) == (2 : Int))) && (x27 == (1 : Int)))) (d := (some 100)) rfl (.yes 49 99 true (((((((((((r4.1 == (1 : Int)) && (r4.2 == (0 : Int))) && (r6.1 == (2 : Int))) && (r6.2 == (0 : Int))) && (r8 == (0 : Int))) && (r10.2 == (0 : Int))) && (x23 == (2 : Int))) && (x24 == (1 : Int))) && (x25 == ([98] : List UInt8))) && ((r15.len : Int) == (2 : Int))) && (x27 == (1 : Int))) rfl rfl rfl rfl) rfl (fun hg => q_move (v := .int .i64 (r17)) rfl rfl) ?_
    refine ro_gval (g := (((((((((((r4.1 == (1 : Int)) && (r4.2 == (0 : Int))) && (r6.1 == (2 : Int))) && (r6.2 == (0 : Int))) && (r8 == (0 : Int))) && (r10.2 == (0 : Int))) && (x23 == (2 : Int))) && (x24 == (1 : Int))) && (x25 == ([98] : List UInt8))) && ((r15.len : Int) == (2 : Int))) && (x27 == (1 : Int)))) (d := (some 101)) rfl (.yes 49 99 true (((((((((((r4.1 == (1 : Int)) && (r4.2 == (0 : Int))) && (r6.1 == (2 : Int))) && (r6.2 == (0 : Int))) && (r8 == (0 : Int))) && (r10.2 == (0 : Int))) && (x23 == (2 : Int))) && (x24 == (1 : Int))) && (x25 == ([98] : List UInt8))) && ((r15.len : Int) == (2 : Int))) && (x27 == (1 : Int))) rfl rfl rfl rfl) rfl (fun hg => q_eql (a := r17) (b := (0 : Int)) rfl (gvb_yes hg) rfl) ?_
    refine ro_val (d := (some 102)) rfl (.free rfl) rfl (q_pickGT (a := (((((((((((r4.1 == (1 : Int)) && (r4.2 == (0 : Int))) && (r6.1 == (2 : Int))) && (r6.2 == (0 : Int))) && (r8 == (0 : Int))) && (r10.2 == (0 : Int))) && (x23 == (2 : Int))) && (x24 == (1 : Int))) && (x25 == ([98] : List UInt8))) && ((r15.len : Int) == (2 : Int))) && (x27 == (1 : Int)))) (b := (r17 == (0 : Int))) rfl rfl rfl rfl) ?_
    refine ro_val (d := (some 103)) rfl (.free rfl) rfl (q_move (v := .bool (((((((((((((r4.1 == (1 : Int)) && (r4.2 == (0 : Int))) && (r6.1 == (2 : Int))) && (r6.2 == (0 : Int))) && (r8 == (0 : Int))) && (r10.2 == (0 : Int))) && (x23 == (2 : Int))) && (x24 == (1 : Int))) && (x25 == ([98] : List UInt8))) && ((r15.len : Int) == (2 : Int))) && (x27 == (1 : Int))) && (r17 == (0 : Int))))) rfl rfl) ?_
    refine ro_gval (g := ((((((((((((r4.1 == (1 : Int)) && (r4.2 == (0 : Int))) && (r6.1 == (2 : Int))) && (r6.2 == (0 : Int))) && (r8 == (0 : Int))) && (r10.2 == (0 : Int))) && (x23 == (2 : Int))) && (x24 == (1 : Int))) && (x25 == ([98] : List UInt8))) && ((r15.len : Int) == (2 : Int))) && (x27 == (1 : Int))) && (r17 == (0 : Int)))) (d := (some 104)) rfl (.yes 53 103 true ((((((((((((r4.1 == (1 : Int)) && (r4.2 == (0 : Int))) && (r6.1 == (2 : Int))) && (r6.2 == (0 : Int))) && (r8 == (0 : Int))) && (r10.2 == (0 : Int))) && (x23 == (2 : Int))) && (x24 == (1 : Int))) && (x25 == ([98] : List UInt8))) && ((r15.len : Int) == (2 : Int))) && (x27 == (1 : Int))) && (r17 == (0 : Int))) rfl rfl rfl rfl) rfl (fun hg => q_move (v := .int .i64 (r19.2)) rfl rfl) ?_
    refine ro_gval (g := ((((((((((((r4.1 == (1 : Int)) && (r4.2 == (0 : Int))) && (r6.1 == (2 : Int))) && (r6.2 == (0 : Int))) && (r8 == (0 : Int))) && (r10.2 == (0 : Int))) && (x23 == (2 : Int))) && (x24 == (1 : Int))) && (x25 == ([98] : List UInt8))) && ((r15.len : Int) == (2 : Int))) && (x27 == (1 : Int))) && (r17 == (0 : Int)))) (d := (some 105)) rfl (.yes 53 103 true ((((((((((((r4.1 == (1 : Int)) && (r4.2 == (0 : Int))) && (r6.1 == (2 : Int))) && (r6.2 == (0 : Int))) && (r8 == (0 : Int))) && (r10.2 == (0 : Int))) && (x23 == (2 : Int))) && (x24 == (1 : Int))) && (x25 == ([98] : List UInt8))) && ((r15.len : Int) == (2 : Int))) && (x27 == (1 : Int))) && (r17 == (0 : Int))) rfl rfl rfl rfl) rfl (fun hg => q_eql (a := r19.2) (b := (93 : Int)) rfl (gvb_yes hg) rfl) ?_
    refine ro_val (d := (some 106)) rfl (.free rfl) rfl (q_pickGT (a := ((((((((((((r4.1 == (1 : Int)) && (r4.2 == (0 : Int))) && (r6.1 == (2 : Int))) && (r6.2 == (0 : Int))) && (r8 == (0 : Int))) && (r10.2 == (0 : Int))) && (x23 == (2 : Int))) && (x24 == (1 : Int))) && (x25 == ([98] : List UInt8))) && ((r15.len : Int) == (2 : Int))) && (x27 == (1 : Int))) && (r17 == (0 : Int)))) (b := (r19.2 == (93 : Int))) rfl rfl rfl rfl) ?_
    refine ro_val (d := (some 0)) rfl (.free rfl) rfl (q_assign (v := .bool ((((((((((((((r4.1 == (1 : Int)) && (r4.2 == (0 : Int))) && (r6.1 == (2 : Int))) && (r6.2 == (0 : Int))) && (r8 == (0 : Int))) && (r10.2 == (0 : Int))) && (x23 == (2 : Int))) && (x24 == (1 : Int))) && (x25 == ([98] : List UInt8))) && ((r15.len : Int) == (2 : Int))) && (x27 == (1 : Int))) && (r17 == (0 : Int))) && (r19.2 == (93 : Int))))) rfl rfl) ?_
    refine ro_nil ?_
    refine wp_ret ?_
    exact ret_ok rfl (.cons (.tmp (v := .bool ((((((((((((((r4.1 == (1 : Int)) && (r4.2 == (0 : Int))) && (r6.1 == (2 : Int))) && (r6.2 == (0 : Int))) && (r8 == (0 : Int))) && (r10.2 == (0 : Int))) && (x23 == (2 : Int))) && (x24 == (1 : Int))) && (x25 == ([98] : List UInt8))) && ((r15.len : Int) == (2 : Int))) && (x27 == (1 : Int))) && (r17 == (0 : Int))) && (r19.2 == (93 : Int))))) rfl) .nil) ⟨(((((((((((((r4.1 == (1 : Int)) && (r4.2 == (0 : Int))) && (r6.1 == (2 : Int))) && (r6.2 == (0 : Int))) && (r8 == (0 : Int))) && (r10.2 == (0 : Int))) && (x23 == (2 : Int))) && (x24 == (1 : Int))) && (x25 == ([98] : List UInt8))) && ((r15.len : Int) == (2 : Int))) && (x27 == (1 : Int))) && (r17 == (0 : Int))) && (r19.2 == (93 : Int))), rfl, h⟩

-- (*moiety/post.Net[string]).Send
def F11_j1 (n_1 : (Option Addr)) (from_2 : Int) (to_3 : Int) (m_4 : (List UInt8)) (t_7 : Bool) (w8 : World) (R : (Int × Int) → World → Prop) : Prop :=
  if t_7 = true then (
    R ((0 : Int), (90 : Int)) w8
  ) else (
    ex (NC n_1) fun a9 =>
    ex (RdAt (tInt .i64) (a9.add 1) w8) fun x10 =>
    cl Try.prog 29 [.pointer (n_1), T35.enc ((⟨(IntKind.i64.wrap (x10 + (1 : Int))), from_2, to_3, m_4⟩ : S35))] (tInt .i64) w8 fun r12 w11 =>
    if (r12 != (0 : Int)) = true then (
      R ((0 : Int), r12) w11
    ) else (
      st (tInt .i64) (a9.add 1) (IntKind.i64.wrap (x10 + (1 : Int))) w11 fun w13 =>
      R ((IntKind.i64.wrap (x10 + (1 : Int))), (0 : Int)) w13
    )
  )
def F11 (n_1 : (Option Addr)) (from_2 : Int) (to_3 : Int) (m_4 : (List UInt8)) (w : World) (R : (Int × Int) → World → Prop) : Prop :=
  cl Try.prog 28 [.pointer (n_1), .int .i64 (from_2)] tBool w fun r6 w5 =>
  if (!r6) = true then (
    F11_j1 n_1 from_2 to_3 m_4 true w5 R
  ) else (
    cl Try.prog 28 [.pointer (n_1), .int .i64 (to_3)] tBool w5 fun r18 w17 =>
    F11_j1 n_1 from_2 to_3 m_4 (!r18) w17 R
  )
theorem F11_ok {n_1 : (Option Addr)} {from_2 : Int} {to_3 : Int} {m_4 : (List UInt8)} {w : World} {R : (Int × Int) → World → Prop} (h : F11 n_1 from_2 to_3 m_4 w R) : cl Try.prog 11 [.pointer (n_1), .int .i64 (from_2), .int .i64 (to_3), .string ⟨(m_4).toArray⟩] (tTup2 (tInt .i64) (tInt .i64)) w R := by
  unfold F11 at h
  refine calls_start 42 Try.func11 rfl rfl (Nat.le_of_ble_eq_true rfl) ?_
  refine wp_seq ?_
  refine wp_text [0, 1] rfl ?_
  refine ro_val (d := (some 8)) rfl (.free rfl) rfl (q_assign (v := .int .i64 ((0 : Int))) rfl rfl) ?_
  refine ro_val (d := (some 9)) rfl (.free rfl) rfl (q_assign (v := .int .i64 ((0 : Int))) rfl rfl) ?_
  refine ro_nil ?_
  refine wp_seq ?_
  refine wp_seq ?_
  refine wp_text [0, 1, 2, 3, 4, 5, 6, 7, 8, 9] rfl ?_
  refine ro_val (d := (some 12)) rfl (.free rfl) rfl (q_move (v := .pointer (n_1)) rfl rfl) ?_
  refine ro_val (d := (some 13)) rfl (.free rfl) rfl (q_move (v := .int .i64 (from_2)) rfl rfl) ?_
  refine ro_wp rfl (.free rfl) (wp_cl (d := (some 14)) rfl (q_call (k := 28) (l := [.pointer (n_1), .int .i64 (from_2)]) rfl ent28 rfl) h ?_)
  intro r6 w5 h
  refine ro_val (d := (some 15)) rfl (.free rfl) rfl (q_not (b := r6) rfl rfl) ?_
  refine ro_val (d := (some 16)) rfl (.free rfl) rfl (q_move (v := .bool ((!r6))) rfl rfl) ?_
  refine ro_join (σ := Bool) (J := fun (s : Bool) w => F11_j1 n_1 from_2 to_3 m_4 s w R) (fr := fun g (s : Bool) => upd (upd (upd (upd (upd (g) 0 (.pointer (n_1))) 1 (.int .i64 (from_2))) 2 (.int .i64 (to_3))) 3 (.string ⟨(m_4).toArray⟩)) 21 (.bool (s))) [5, 6, 7, 8, 9] [] ?_ ?_
  · rintro t_7 g w8 h
    unfold F11_j1 at h
    refine ro_nil ?_
    refine wp_if (b := t_7) rfl h (fun hb15 h => ?_) (fun hb15 h => ?_)
    · refine wp_seq ?_
      refine wp_text [0, 1] rfl ?_
      refine ro_val (d := (some 8)) rfl (.free rfl) rfl (q_assign (v := .int .i64 ((0 : Int))) rfl rfl) ?_
      refine ro_val (d := (some 9)) rfl (.free rfl) rfl (q_assign (v := .int .i64 ((90 : Int))) rfl rfl) ?_
      refine ro_nil ?_
      refine wp_ret ?_
      exact ret_ok rfl (.cons (.tmp (v := .int .i64 ((0 : Int))) rfl) (.cons (.tmp (v := .int .i64 ((90 : Int))) rfl) .nil)) ⟨((0 : Int), (90 : Int)), rfl, h⟩
    · refine wp_skip ?_
      refine wp_seq ?_
      refine wp_text [0, 1, 2, 3, 4, 5] rfl ?_
      refine ro_val (d := (some 22)) rfl (.free rfl) rfl (q_move (v := .pointer (n_1)) rfl rfl) ?_
      obtain ⟨a9, ha9, h⟩ := h
      refine ro_val (d := (some 23)) rfl (.free rfl) rfl (q_nilCheck (a := a9) rfl (congrArg Value.pointer ha9)) ?_
      refine ro_val (d := (some 24)) rfl (.free rfl) rfl (q_fieldAddr (a := a9) (off := 1) rfl Try.underlying65 rfl rfl ok3 (by decide) rfl) ?_
      obtain ⟨x10, hx10, h⟩ := h
      refine ro_val (d := (some 25)) rfl (.free rfl) rfl (q_load (T := (tInt .i64)) (u := x10) (a := (a9.add 1)) rfl ok3 rfl hx10) ?_
      refine ro_val (d := (some 26)) rfl (.free rfl) rfl (q_add (a := x10) (b := (1 : Int)) rfl rfl rfl) ?_
      refine ro_val (d := (some 10)) rfl (.free rfl) rfl (q_assign (v := .int .i64 ((IntKind.i64.wrap (x10 + (1 : Int))))) rfl rfl) ?_
      refine ro_nil ?_
      refine wp_seq ?_
      refine wp_seq ?_
      refine wp_text [0, 1, 2, 3, 4, 5, 6, 7] rfl ?_
      refine ro_val (d := (some 27)) rfl (.free rfl) rfl (q_move (v := .pointer (n_1)) rfl rfl) ?_
      refine ro_val (d := (some 28)) rfl (.free rfl) rfl (q_move (v := .int .i64 ((IntKind.i64.wrap (x10 + (1 : Int))))) rfl rfl) ?_
      refine ro_val (d := (some 29)) rfl (.free rfl) rfl (q_move (v := .int .i64 (from_2)) rfl rfl) ?_
      refine ro_val (d := (some 30)) rfl (.free rfl) rfl (q_move (v := .int .i64 (to_3)) rfl rfl) ?_
      refine ro_val (d := (some 31)) rfl (.free rfl) rfl (q_move (v := .string ⟨(m_4).toArray⟩) rfl rfl) ?_
      refine ro_val (d := (some 32)) rfl (.free rfl) rfl (q_build36_0_1_2_3 (v0 := (IntKind.i64.wrap (x10 + (1 : Int)))) (v1 := from_2) (v2 := to_3) (v3 := m_4) rfl rfl rfl rfl rfl) ?_
      refine ro_wp rfl (.free rfl) (wp_cl (d := (some 33)) rfl (q_call (k := 29) (l := [.pointer (n_1), T35.enc ((⟨(IntKind.i64.wrap (x10 + (1 : Int))), from_2, to_3, m_4⟩ : S35))]) rfl ent29 rfl) h ?_)
      intro r12 w11 h
      refine ro_val (d := (some 11)) rfl (.free rfl) rfl (q_assign (v := .int .i64 (r12)) rfl rfl) ?_
      refine ro_nil ?_
      refine wp_seq ?_
      refine wp_text [0, 1] rfl ?_
      refine ro_val (d := (some 34)) rfl (.free rfl) rfl (q_move (v := .int .i64 (r12)) rfl rfl) ?_
      refine ro_val (d := (some 35)) rfl (.free rfl) rfl (q_neq (a := r12) (b := (0 : Int)) rfl rfl rfl) ?_
      refine ro_nil ?_
      refine wp_if (b := (r12 != (0 : Int))) rfl h (fun hb14 h => ?_) (fun hb14 h => ?_)
      · refine wp_seq ?_
        refine wp_text [0, 1, 2] rfl ?_
        refine ro_val (d := (some 36)) rfl (.free rfl) rfl (q_move (v := .int .i64 (r12)) rfl rfl) ?_
        refine ro_val (d := (some 8)) rfl (.free rfl) rfl (q_assign (v := .int .i64 ((0 : Int))) rfl rfl) ?_
        refine ro_val (d := (some 9)) rfl (.free rfl) rfl (q_assign (v := .int .i64 (r12)) rfl rfl) ?_
        refine ro_nil ?_
        refine wp_ret ?_
        exact ret_ok rfl (.cons (.tmp (v := .int .i64 ((0 : Int))) rfl) (.cons (.tmp (v := .int .i64 (r12)) rfl) .nil)) ⟨((0 : Int), r12), rfl, h⟩
      · refine wp_skip ?_
        refine wp_seq ?_
        refine wp_text [0, 1, 2, 3, 4] rfl ?_
        refine ro_val (d := (some 37)) rfl (.free rfl) rfl (q_move (v := .pointer (n_1)) rfl rfl) ?_
        refine ro_val (d := (some 38)) rfl (.free rfl) rfl (q_move (v := .int .i64 ((IntKind.i64.wrap (x10 + (1 : Int))))) rfl rfl) ?_
        refine ro_val (d := (some 39)) rfl (.free rfl) rfl (q_nilCheck (a := a9) rfl (congrArg Value.pointer ha9)) ?_
        refine ro_val (d := (some 40)) rfl (.free rfl) rfl (q_fieldAddr (a := a9) (off := 1) rfl Try.underlying65 rfl rfl ok3 (by decide) rfl) ?_
        obtain ⟨w13, hw13, hrw13, h⟩ := st_open h
        refine ro_skip (d := none) rfl (.free rfl) rfl (q_store (T := (tInt .i64)) (u := (IntKind.i64.wrap (x10 + (1 : Int)))) (a := (a9.add 1)) rfl ok3 rfl rfl hrw13 hw13) ?_
        refine ro_nil ?_
        refine wp_seq ?_
        refine wp_text [0, 1, 2] rfl ?_
        refine ro_val (d := (some 41)) rfl (.free rfl) rfl (q_move (v := .int .i64 ((IntKind.i64.wrap (x10 + (1 : Int))))) rfl rfl) ?_
        refine ro_val (d := (some 8)) rfl (.free rfl) rfl (q_assign (v := .int .i64 ((IntKind.i64.wrap (x10 + (1 : Int))))) rfl rfl) ?_
        refine ro_val (d := (some 9)) rfl (.free rfl) rfl (q_assign (v := .int .i64 ((0 : Int))) rfl rfl) ?_
        refine ro_nil ?_
        refine wp_ret ?_
        exact ret_ok rfl (.cons (.tmp (v := .int .i64 ((IntKind.i64.wrap (x10 + (1 : Int))))) rfl) (.cons (.tmp (v := .int .i64 ((0 : Int))) rfl) .nil)) ⟨((IntKind.i64.wrap (x10 + (1 : Int))), (0 : Int)), rfl, h⟩
  · refine ro_if (b := (!r6)) h (fun hb16 h => ?_) (fun hb16 h => ?_)
    · refine ro_bar (d := (some 17)) rfl (.by_ 4 false 16 (!r6) rfl rfl rfl hb16) rfl ?_
      refine ro_bar (d := (some 18)) rfl (.by_ 4 false 16 (!r6) rfl rfl rfl hb16) rfl ?_
      refine ro_bar (d := (some 19)) rfl (.by_ 4 false 16 (!r6) rfl rfl rfl hb16) rfl ?_
      refine ro_bar (d := (some 20)) rfl (.by_ 4 false 16 (!r6) rfl rfl rfl hb16) rfl ?_
      refine ro_val (d := (some 21)) rfl (.free rfl) rfl (q_pickT (v := .bool (true)) (b := (!r6)) rfl rfl hb16 rfl) ?_
      refine ro_nil ?_
      exact ⟨(true), _, arr (upd_step (upd_step (upd_step (upd_step (upd_step rfl rfl) rfl) rfl) rfl) rfl), h⟩
    · refine ro_val (d := (some 17)) rfl (.by_ 4 false 16 (!r6) rfl rfl rfl hb16) rfl (q_move (v := .pointer (n_1)) rfl rfl) ?_
      refine ro_val (d := (some 18)) rfl (.by_ 4 false 16 (!r6) rfl rfl rfl hb16) rfl (q_move (v := .int .i64 (to_3)) rfl rfl) ?_
      refine ro_wp rfl (.by_ 4 false 16 (!r6) rfl rfl rfl hb16) (wp_cl (d := (some 19)) rfl (q_call (k := 28) (l := [.pointer (n_1), .int .i64 (to_3)]) rfl ent28 rfl) h ?_)
      intro r18 w17 h
      refine ro_val (d := (some 20)) rfl (.by_ 4 false 16 (!r6) rfl rfl rfl hb16) rfl (q_not (b := r18) rfl rfl) ?_
      refine ro_val (d := (some 21)) rfl (.free rfl) rfl (q_pickF (v := .bool ((!r18))) (b := (!r6)) rfl rfl hb16 rfl) ?_
      refine ro_nil ?_
      exact ⟨((!r18)), _, arr (upd_step (upd_step (upd_step (upd_step (upd_step rfl rfl) rfl) rfl) rfl) rfl), h⟩

-- (*moiety/post.Net[string]).Cut
def F12_j1 (w4 : World) (R : Int → World → Prop) : Prop :=
  R (0 : Int) w4
def F12 (n_1 : (Option Addr)) (node_2 : Int) (off_3 : Bool) (w : World) (R : Int → World → Prop) : Prop :=
  cl Try.prog 28 [.pointer (n_1), .int .i64 (node_2)] tBool w fun r6 w5 =>
  if (!r6) = true then (
    R (90 : Int) w5
  ) else (
    if off_3 = true then (
      ex (NC n_1) fun a7 =>
      ex (RdAt tMap (a7.add 3) w5) fun x8 =>
      mput T68 .i64 x8 node_2 (⟨⟩ : S68) w5 fun w9 =>
      F12_j1 w9 R
    ) else (
      ex (NC n_1) fun a10 =>
      ex (RdAt tMap (a10.add 3) w5) fun x11 =>
      mdel T68 .i64 x11 node_2 w5 fun w12 =>
      F12_j1 w12 R
    )
  )
theorem F12_ok {n_1 : (Option Addr)} {node_2 : Int} {off_3 : Bool} {w : World} {R : Int → World → Prop} (h : F12 n_1 node_2 off_3 w R) : cl Try.prog 12 [.pointer (n_1), .int .i64 (node_2), .bool (off_3)] (tInt .i64) w R := by
  unfold F12 at h
  refine calls_start 25 Try.func12 rfl rfl (Nat.le_of_ble_eq_true rfl) ?_
  refine wp_seq ?_
  refine wp_text [0] rfl ?_
  refine ro_val (d := (some 6)) rfl (.free rfl) rfl (q_assign (v := .int .i64 ((0 : Int))) rfl rfl) ?_
  refine ro_nil ?_
  refine seq_join (σ := Unit) (J := fun (s : Unit) w => F12_j1 w R) (fr := fun g (s : Unit) => g) ?_ ?_
  · rintro ⟨⟩ g w4 h
    unfold F12_j1 at h
    refine wp_seq ?_
    refine wp_text [0] rfl ?_
    refine ro_val (d := (some 6)) rfl (.free rfl) rfl (q_assign (v := .int .i64 ((0 : Int))) rfl rfl) ?_
    refine ro_nil ?_
    refine wp_ret ?_
    exact ret_ok rfl (.cons (.tmp (v := .int .i64 ((0 : Int))) rfl) .nil) ⟨(0 : Int), rfl, h⟩
  · refine wp_block ?_
    refine wp_seq ?_
    refine wp_text [0, 1, 2, 3, 4] rfl ?_
    refine ro_val (d := (some 13)) rfl (.free rfl) rfl (q_move (v := .pointer (n_1)) rfl rfl) ?_
    refine ro_val (d := (some 14)) rfl (.free rfl) rfl (q_move (v := .int .i64 (node_2)) rfl rfl) ?_
    refine ro_wp rfl (.free rfl) (wp_cl (d := (some 15)) rfl (q_call (k := 28) (l := [.pointer (n_1), .int .i64 (node_2)]) rfl ent28 rfl) h ?_)
    intro r6 w5 h
    refine ro_val (d := (some 16)) rfl (.free rfl) rfl (q_not (b := r6) rfl rfl) ?_
    refine ro_val (d := (some 12)) rfl (.free rfl) rfl (q_assign (v := .bool ((!r6))) rfl rfl) ?_
    refine ro_nil ?_
    refine wp_if (b := (!r6)) rfl h (fun hb14 h => ?_) (fun hb14 h => ?_)
    · refine wp_seq ?_
      refine wp_text [0] rfl ?_
      refine ro_val (d := (some 6)) rfl (.free rfl) rfl (q_assign (v := .int .i64 ((90 : Int))) rfl rfl) ?_
      refine ro_nil ?_
      refine wp_ret ?_
      exact ret_ok rfl (.cons (.tmp (v := .int .i64 ((90 : Int))) rfl) .nil) ⟨(90 : Int), rfl, h⟩
    · refine wp_seq ?_
      refine wp_text [0, 1] rfl ?_
      refine ro_val (d := (some 18)) rfl (.free rfl) rfl (q_move (v := .bool (off_3)) rfl rfl) ?_
      refine ro_val (d := (some 17)) rfl (.free rfl) rfl (q_assign (v := .bool (off_3)) rfl rfl) ?_
      refine ro_nil ?_
      refine wp_if (b := off_3) rfl h (fun hb13 h => ?_) (fun hb13 h => ?_)
      · refine wp_text [0, 1, 2, 3, 4, 5, 6] rfl ?_
        refine ro_val (d := (some 19)) rfl (.free rfl) rfl (q_move (v := .pointer (n_1)) rfl rfl) ?_
        obtain ⟨a7, ha7, h⟩ := h
        refine ro_val (d := (some 20)) rfl (.free rfl) rfl (q_nilCheck (a := a7) rfl (congrArg Value.pointer ha7)) ?_
        refine ro_val (d := (some 21)) rfl (.free rfl) rfl (q_fieldAddr (a := a7) (off := 3) rfl Try.underlying65 rfl rfl ok63 (by decide) rfl) ?_
        obtain ⟨x8, hx8, h⟩ := h
        refine ro_val (d := (some 22)) rfl (.free rfl) rfl (q_load (T := tMap) (u := x8) (a := (a7.add 3)) rfl ok63 rfl hx8) ?_
        refine ro_val (d := (some 23)) rfl (.free rfl) rfl (q_move (v := .int .i64 (node_2)) rfl rfl) ?_
        refine ro_val (d := (some 24)) rfl (.free rfl) rfl (q_build68_  rfl ) ?_
        refine ro_wp rfl (.free rfl) (wp_mput (T := T68) (r := x8) (key := node_2) (v := (⟨⟩ : S68)) (d := none) rfl (.inl rfl) Try.underlying63 Try.underlying3 rfl rfl rfl h ?_)
        intro w9 h
        refine ro_nil ?_
        exact ⟨(), _, arr rfl, h⟩
      · refine wp_text [0, 1, 2, 3, 4, 5] rfl ?_
        refine ro_val (d := (some 7)) rfl (.free rfl) rfl (q_move (v := .pointer (n_1)) rfl rfl) ?_
        obtain ⟨a10, ha10, h⟩ := h
        refine ro_val (d := (some 8)) rfl (.free rfl) rfl (q_nilCheck (a := a10) rfl (congrArg Value.pointer ha10)) ?_
        refine ro_val (d := (some 9)) rfl (.free rfl) rfl (q_fieldAddr (a := a10) (off := 3) rfl Try.underlying65 rfl rfl ok63 (by decide) rfl) ?_
        obtain ⟨x11, hx11, h⟩ := h
        refine ro_val (d := (some 10)) rfl (.free rfl) rfl (q_load (T := tMap) (u := x11) (a := (a10.add 3)) rfl ok63 rfl hx11) ?_
        refine ro_val (d := (some 11)) rfl (.free rfl) rfl (q_move (v := .int .i64 (node_2)) rfl rfl) ?_
        refine ro_wp rfl (.free rfl) (wp_mdel (T := T68) (r := x11) (key := node_2) (d := none) rfl rfl Try.underlying63 Try.underlying3 rfl rfl h ?_)
        intro w12 h
        refine ro_nil ?_
        exact ⟨(), _, arr rfl, h⟩

-- (*moiety/post.Net[string]).Letters
def F13 (n_1 : (Option Addr)) (w : World) (R : Slc → World → Prop) : Prop :=
  ex (NC n_1) fun a2 =>
  ex (RdAt tSlc (a2.add 2) w) fun x3 =>
  cl Try.prog 30 [tSlc.enc (x3)] tSlc w fun r5 w4 =>
  R r5 w4
theorem F13_ok {n_1 : (Option Addr)} {w : World} {R : Slc → World → Prop} (h : F13 n_1 w R) : cl Try.prog 13 [.pointer (n_1)] tSlc w R := by
  unfold F13 at h
  refine calls_start 8 Try.func13 rfl rfl (Nat.le_of_ble_eq_true rfl) ?_
  refine wp_seq ?_
  refine wp_text [0] rfl ?_
  refine ro_val (d := (some 2)) rfl (.free rfl) rfl (q_assign (v := tSlc.enc ((⟨none, 0, 0⟩ : Slc))) rfl rfl) ?_
  refine ro_nil ?_
  refine wp_seq ?_
  refine wp_text [0, 1, 2, 3, 4, 5] rfl ?_
  refine ro_val (d := (some 3)) rfl (.free rfl) rfl (q_move (v := .pointer (n_1)) rfl rfl) ?_
  obtain ⟨a2, ha2, h⟩ := h
  refine ro_val (d := (some 4)) rfl (.free rfl) rfl (q_nilCheck (a := a2) rfl (congrArg Value.pointer ha2)) ?_
  refine ro_val (d := (some 5)) rfl (.free rfl) rfl (q_fieldAddr (a := a2) (off := 2) rfl Try.underlying65 rfl rfl ok33 (by decide) rfl) ?_
  obtain ⟨x3, hx3, h⟩ := h
  refine ro_val (d := (some 6)) rfl (.free rfl) rfl (q_load (T := tSlc) (u := x3) (a := (a2.add 2)) rfl ok33 rfl hx3) ?_
  refine ro_wp rfl (.free rfl) (wp_cl (d := (some 7)) rfl (q_call (k := 30) (l := [tSlc.enc (x3)]) rfl ent30 rfl) h ?_)
  intro r5 w4 h
  refine ro_val (d := (some 2)) rfl (.free rfl) rfl (q_assign (v := tSlc.enc (r5)) rfl rfl) ?_
  refine ro_nil ?_
  refine wp_ret ?_
  exact ret_ok rfl (.cons (.tmp (v := tSlc.enc (r5)) rfl) .nil) ⟨r5, rfl, h⟩

end Go.Proofs.Ytpflfnaflacfgaa.Cf
