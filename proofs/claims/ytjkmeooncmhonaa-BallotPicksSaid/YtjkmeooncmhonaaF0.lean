/- Characteristic formulae of Go functions, and that they are. Printed by gen.py (own tool). -/
import Derived.Test.YtjkmeooncmhonaaTy
namespace Go.Proofs.Ytjkmeooncmhonaa.Cf
open Go
set_option maxRecDepth 100000
set_option maxHeartbeats 1000000
set_option linter.unusedVariables false
set_option linter.unusedSimpArgs false

-- moiety/moietylaw22.awake
def F7_j2 (r24 : Slc) (t_29 : Bool) (w30 : World) (R : Bool → World → Prop) : Prop :=
  ex (fun x => (t_29 && ((r24.len : Int) == (3 : Int))) = true → (IxA r24 3 (0 : Int)) x) fun a31 =>
  ex (fun x => (t_29 && ((r24.len : Int) == (3 : Int))) = true → (RdAt tStr (a31.add 2) w30) x) fun x32 =>
  ex (fun x => ((t_29 && ((r24.len : Int) == (3 : Int))) && (x32 == ([98] : List UInt8))) = true → (IxA r24 3 (1 : Int)) x) fun a33 =>
  ex (fun x => ((t_29 && ((r24.len : Int) == (3 : Int))) && (x32 == ([98] : List UInt8))) = true → (RdAt (tInt .i64) (a33.add 1) w30) x) fun x34 =>
  R (((t_29 && ((r24.len : Int) == (3 : Int))) && (x32 == ([98] : List UInt8))) && (x34 == (7 : Int))) w30
def F7_j1 (r4 : ((Option Addr) × Int)) (r24 : Slc) (t_27 : Bool) (w28 : World) (R : Bool → World → Prop) : Prop :=
  if t_27 = true then (
    ex (NC r4.1) fun a36 =>
    ex (RdAt tPtr (a36.add 0) w28) fun x37 =>
    cl Try.prog 18 [.pointer (x37)] (tInt .i64) w28 fun r39 w38 =>
    F7_j2 r24 (r39 == (0 : Int)) w38 R
  ) else (
    F7_j2 r24 false w28 R
  )
def F7 (w : World) (R : Bool → World → Prop) : Prop :=
  cl Try.prog 11 [.int .i64 ((1 : Int))] (tTup2 tPtr (tInt .i64)) w fun r2 w1 =>
  cl Try.prog 12 [.pointer (r2.1), .int .i64 ((0 : Int))] (tTup2 tPtr (tInt .i64)) w1 fun r4 w3 =>
  if (((r2.2 != (0 : Int)) || (r4.2 != (0 : Int))) || r4.1.isNone) = true then (
    R false w3
  ) else (
    cl Try.prog 14 [.pointer (r4.1), .int .i64 ((5 : Int))] (tTup2 tSlc (tInt .i64)) w3 fun r6 w5 =>
    cl Try.prog 16 [.pointer (r4.1), .int .i64 ((5 : Int)), .int .i64 ((1 : Int)), .string ⟨(([97] : List UInt8)).toArray⟩] (tInt .i64) w5 fun r8 w7 =>
    cl Try.prog 16 [.pointer (r4.1), .int .i64 ((4 : Int)), .int .i64 ((1 : Int)), .string ⟨(([98] : List UInt8)).toArray⟩] (tInt .i64) w7 fun r10 w9 =>
    cl Try.prog 16 [.pointer (r4.1), .int .i64 ((5 : Int)), .int .i64 ((1 : Int)), .string ⟨(([98] : List UInt8)).toArray⟩] (tInt .i64) w9 fun r12 w11 =>
    cl Try.prog 16 [.pointer (r4.1), .int .i64 ((7 : Int)), .int .i64 ((2 : Int)), .string ⟨(([99] : List UInt8)).toArray⟩] (tInt .i64) w11 fun r14 w13 =>
    cl Try.prog 14 [.pointer (r4.1), .int .i64 ((6 : Int))] (tTup2 tSlc (tInt .i64)) w13 fun r16 w15 =>
    cl Try.prog 14 [.pointer (r4.1), .int .i64 ((7 : Int))] (tTup2 tSlc (tInt .i64)) w15 fun r18 w17 =>
    nwS 47 T46 [(⟨(1 : Int), (6 : Int), ([98] : List UInt8)⟩ : S46), (⟨(3 : Int), (1 : Int), ([99] : List UInt8)⟩ : S46)] w17 fun a19 w20 =>
    nwS 23 tSlc [r18.1, (⟨some a19, 2, 2⟩ : Slc)] w20 fun a21 w22 =>
    cl Try.prog 8 [tSlc.enc ((⟨some a21, 2, 2⟩ : Slc))] tSlc w22 fun r24 w23 =>
    ex (fun x => ((((((((((r6.1.len : Int) == (0 : Int)) && (r6.2 == (0 : Int))) && (r8 == (0 : Int))) && (r10 == (234 : Int))) && (r12 == (235 : Int))) && (r14 == (0 : Int))) && (r16.2 == (234 : Int))) && (r18.2 == (0 : Int))) && ((r18.1.len : Int) == (2 : Int))) = true → (IxA r18.1 3 (1 : Int)) x) fun a25 =>
    ex (fun x => ((((((((((r6.1.len : Int) == (0 : Int)) && (r6.2 == (0 : Int))) && (r8 == (0 : Int))) && (r10 == (234 : Int))) && (r12 == (235 : Int))) && (r14 == (0 : Int))) && (r16.2 == (234 : Int))) && (r18.2 == (0 : Int))) && ((r18.1.len : Int) == (2 : Int))) = true → (RdAt tStr (a25.add 2) w23) x) fun x26 =>
    if (((((((((((r6.1.len : Int) == (0 : Int)) && (r6.2 == (0 : Int))) && (r8 == (0 : Int))) && (r10 == (234 : Int))) && (r12 == (235 : Int))) && (r14 == (0 : Int))) && (r16.2 == (234 : Int))) && (r18.2 == (0 : Int))) && ((r18.1.len : Int) == (2 : Int))) && (x26 == ([99] : List UInt8))) = true then (
      cl Try.prog 15 [.pointer (r4.1)] (tInt .i64) w23 fun r42 w41 =>
      F7_j1 r4 r24 (r42 == (7 : Int)) w41 R
    ) else (
      F7_j1 r4 r24 false w23 R
    )
  )
theorem F7_ok {w : World} {R : Bool → World → Prop} (h : F7 w R) : cl Try.prog 7 [] tBool w R := by
  unfold F7 at h
  refine calls_start 139 Try.func7 rfl rfl (Nat.le_of_ble_eq_true rfl) ?_
  refine wp_seq ?_
  refine wp_text [0] rfl ?_
  refine rv 0 rfl rfl rfl (q_assign (v := .bool (false)) rfl rfl) ?_
  refine ro_nil ?_
  refine wp_seq ?_
  refine wp_text [0, 1, 2, 3, 4, 5] rfl ?_
  refine ro_wp rfl (.free rfl) (wp_cl (d := (some 17)) rfl (q_call (k := 11) (l := [.int .i64 ((1 : Int))]) rfl ent11 rfl) h ?_)
  intro r2 w1 h
  refine rv 16 rfl rfl rfl (q_move (v := (tTup2 tPtr (tInt .i64)).enc (r2)) rfl rfl) ?_
  refine rv 18 rfl rfl rfl (q_extract (vs := #[.pointer (r2.1), .int .i64 (r2.2)]) (v := .pointer (r2.1)) rfl rfl rfl) ?_
  refine rv 19 rfl rfl rfl (q_extract (vs := #[.pointer (r2.1), .int .i64 (r2.2)]) (v := .int .i64 (r2.2)) rfl rfl rfl) ?_
  refine rv 1 rfl rfl rfl (q_assign (v := .pointer (r2.1)) rfl rfl) ?_
  refine rv 2 rfl rfl rfl (q_assign (v := .int .i64 (r2.2)) rfl rfl) ?_
  refine ro_nil ?_
  refine wp_seq ?_
  refine wp_text [0, 1, 2, 3, 4, 5, 6] rfl ?_
  refine rv 21 rfl rfl rfl (q_move (v := .pointer (r2.1)) rfl rfl) ?_
  refine ro_wp rfl (.free rfl) (wp_cl (d := (some 22)) rfl (q_call (k := 12) (l := [.pointer (r2.1), .int .i64 ((0 : Int))]) rfl ent12 rfl) h ?_)
  intro r4 w3 h
  refine rv 20 rfl rfl rfl (q_move (v := (tTup2 tPtr (tInt .i64)).enc (r4)) rfl rfl) ?_
  refine rv 23 rfl rfl rfl (q_extract (vs := #[.pointer (r4.1), .int .i64 (r4.2)]) (v := .pointer (r4.1)) rfl rfl rfl) ?_
  refine rv 24 rfl rfl rfl (q_extract (vs := #[.pointer (r4.1), .int .i64 (r4.2)]) (v := .int .i64 (r4.2)) rfl rfl rfl) ?_
  refine rv 3 rfl rfl rfl (q_assign (v := .pointer (r4.1)) rfl rfl) ?_
  refine rv 4 rfl rfl rfl (q_assign (v := .int .i64 (r4.2)) rfl rfl) ?_
  refine ro_nil ?_
  refine wp_seq ?_
  refine wp_seq ?_
  refine wp_text [0, 1, 2, 3, 4, 5, 6, 7, 8, 9] rfl ?_
  refine rv 25 rfl rfl rfl (q_move (v := .int .i64 (r2.2)) rfl rfl) ?_
  refine rv 26 rfl rfl rfl (q_neq (a := r2.2) (b := (0 : Int)) rfl rfl rfl) ?_
  refine rv 27 rfl rfl rfl (q_move (v := .bool ((r2.2 != (0 : Int)))) rfl rfl) ?_
  refine ro_gval (g := (!(r2.2 != (0 : Int)))) (d := (some 28)) rfl (.no 2 27 true (r2.2 != (0 : Int)) rfl rfl rfl rfl) rfl (fun hg => q_move (v := .int .i64 (r4.2)) rfl rfl) ?_
  refine ro_gval (g := (!(r2.2 != (0 : Int)))) (d := (some 29)) rfl (.no 2 27 true (r2.2 != (0 : Int)) rfl rfl rfl rfl) rfl (fun hg => q_neq (a := r4.2) (b := (0 : Int)) rfl (gvb_yes hg) rfl) ?_
  refine rv 30 rfl rfl rfl (q_pickGF (a := (r2.2 != (0 : Int))) (c := (r4.2 != (0 : Int))) rfl rfl rfl rfl) ?_
  refine rv 31 rfl rfl rfl (q_move (v := .bool (((r2.2 != (0 : Int)) || (r4.2 != (0 : Int))))) rfl rfl) ?_
  refine ro_gval (g := (!((r2.2 != (0 : Int)) || (r4.2 != (0 : Int))))) (d := (some 32)) rfl (.no 6 31 true ((r2.2 != (0 : Int)) || (r4.2 != (0 : Int))) rfl rfl rfl rfl) rfl (fun hg => q_move (v := .pointer (r4.1)) rfl rfl) ?_
  refine ro_gval (g := (!((r2.2 != (0 : Int)) || (r4.2 != (0 : Int))))) (d := (some 33)) rfl (.no 6 31 true ((r2.2 != (0 : Int)) || (r4.2 != (0 : Int))) rfl rfl rfl rfl) rfl (fun hg => q_eqP0 (a := r4.1) rfl Try.underlying34 (gvb_yes hg) rfl) ?_
  refine rv 34 rfl rfl rfl (q_pickGF (a := ((r2.2 != (0 : Int)) || (r4.2 != (0 : Int)))) (c := r4.1.isNone) rfl rfl rfl rfl) ?_
  refine ro_nil ?_
  refine wp_if (b := (((r2.2 != (0 : Int)) || (r4.2 != (0 : Int))) || r4.1.isNone)) rfl h (fun hb43 h => ?_) (fun hb43 h => ?_)
  · refine wp_seq ?_
    refine wp_text [0] rfl ?_
    refine rv 0 rfl rfl rfl (q_assign (v := .bool (false)) rfl rfl) ?_
    refine ro_nil ?_
    refine wp_ret ?_
    exact ret_ok rfl (.cons (.tmp (v := .bool (false)) rfl) .nil) ⟨false, rfl, h⟩
  · refine wp_skip ?_
    refine wp_seq ?_
    refine wp_text [0, 1, 2, 3, 4, 5, 6] rfl ?_
    refine rv 36 rfl rfl rfl (q_move (v := .pointer (r4.1)) rfl rfl) ?_
    refine ro_wp rfl (.free rfl) (wp_cl (d := (some 37)) rfl (q_call (k := 14) (l := [.pointer (r4.1), .int .i64 ((5 : Int))]) rfl ent14 rfl) h ?_)
    intro r6 w5 h
    refine rv 35 rfl rfl rfl (q_move (v := (tTup2 tSlc (tInt .i64)).enc (r6)) rfl rfl) ?_
    refine rv 38 rfl rfl rfl (q_extract (vs := #[tSlc.enc (r6.1), .int .i64 (r6.2)]) (v := tSlc.enc (r6.1)) rfl rfl rfl) ?_
    refine rv 39 rfl rfl rfl (q_extract (vs := #[tSlc.enc (r6.1), .int .i64 (r6.2)]) (v := .int .i64 (r6.2)) rfl rfl rfl) ?_
    refine rv 5 rfl rfl rfl (q_assign (v := tSlc.enc (r6.1)) rfl rfl) ?_
    refine rv 6 rfl rfl rfl (q_assign (v := .int .i64 (r6.2)) rfl rfl) ?_
    refine ro_nil ?_
    refine wp_seq ?_
    refine wp_text [0, 1, 2, 3, 4, 5, 6, 7, 8, 9, 10, 11] rfl ?_
    refine rv 40 rfl rfl rfl (q_move (v := .pointer (r4.1)) rfl rfl) ?_
    refine ro_wp rfl (.free rfl) (wp_cl (d := (some 41)) rfl (q_call (k := 16) (l := [.pointer (r4.1), .int .i64 ((5 : Int)), .int .i64 ((1 : Int)), .string ⟨(([97] : List UInt8)).toArray⟩]) rfl ent16 rfl) h ?_)
    intro r8 w7 h
    refine rv 42 rfl rfl rfl (q_move (v := .pointer (r4.1)) rfl rfl) ?_
    refine ro_wp rfl (.free rfl) (wp_cl (d := (some 43)) rfl (q_call (k := 16) (l := [.pointer (r4.1), .int .i64 ((4 : Int)), .int .i64 ((1 : Int)), .string ⟨(([98] : List UInt8)).toArray⟩]) rfl ent16 rfl) h ?_)
    intro r10 w9 h
    refine rv 44 rfl rfl rfl (q_move (v := .pointer (r4.1)) rfl rfl) ?_
    refine ro_wp rfl (.free rfl) (wp_cl (d := (some 45)) rfl (q_call (k := 16) (l := [.pointer (r4.1), .int .i64 ((5 : Int)), .int .i64 ((1 : Int)), .string ⟨(([98] : List UInt8)).toArray⟩]) rfl ent16 rfl) h ?_)
    intro r12 w11 h
    refine rv 46 rfl rfl rfl (q_move (v := .pointer (r4.1)) rfl rfl) ?_
    refine ro_wp rfl (.free rfl) (wp_cl (d := (some 47)) rfl (q_call (k := 16) (l := [.pointer (r4.1), .int .i64 ((7 : Int)), .int .i64 ((2 : Int)), .string ⟨(([99] : List UInt8)).toArray⟩]) rfl ent16 rfl) h ?_)
    intro r14 w13 h
    refine rv 7 rfl rfl rfl (q_assign (v := .int .i64 (r8)) rfl rfl) ?_
    refine rv 8 rfl rfl rfl (q_assign (v := .int .i64 (r10)) rfl rfl) ?_
    refine rv 9 rfl rfl rfl (q_assign (v := .int .i64 (r12)) rfl rfl) ?_
    refine rv 10 rfl rfl rfl (q_assign (v := .int .i64 (r14)) rfl rfl) ?_
    refine ro_nil ?_
    refine wp_seq ?_
    refine wp_text [0, 1, 2, 3, 4, 5, 6] rfl ?_
    refine rv 49 rfl rfl rfl (q_move (v := .pointer (r4.1)) rfl rfl) ?_
    refine ro_wp rfl (.free rfl) (wp_cl (d := (some 50)) rfl (q_call (k := 14) (l := [.pointer (r4.1), .int .i64 ((6 : Int))]) rfl ent14 rfl) h ?_)
    intro r16 w15 h
    refine rv 48 rfl rfl rfl (q_move (v := (tTup2 tSlc (tInt .i64)).enc (r16)) rfl rfl) ?_
    refine rv 51 rfl rfl rfl (q_extract (vs := #[tSlc.enc (r16.1), .int .i64 (r16.2)]) (v := tSlc.enc (r16.1)) rfl rfl rfl) ?_
    refine rv 52 rfl rfl rfl (q_extract (vs := #[tSlc.enc (r16.1), .int .i64 (r16.2)]) (v := .int .i64 (r16.2)) rfl rfl rfl) ?_
    refine rv 11 rfl rfl rfl (q_assign (v := tSlc.enc (r16.1)) rfl rfl) ?_
    refine rv 12 rfl rfl rfl (q_assign (v := .int .i64 (r16.2)) rfl rfl) ?_
    refine ro_nil ?_
    refine wp_seq ?_
    refine wp_text [0, 1, 2, 3, 4, 5, 6] rfl ?_
    refine rv 54 rfl rfl rfl (q_move (v := .pointer (r4.1)) rfl rfl) ?_
    refine ro_wp rfl (.free rfl) (wp_cl (d := (some 55)) rfl (q_call (k := 14) (l := [.pointer (r4.1), .int .i64 ((7 : Int))]) rfl ent14 rfl) h ?_)
    intro r18 w17 h
    refine rv 53 rfl rfl rfl (q_move (v := (tTup2 tSlc (tInt .i64)).enc (r18)) rfl rfl) ?_
    refine rv 56 rfl rfl rfl (q_extract (vs := #[tSlc.enc (r18.1), .int .i64 (r18.2)]) (v := tSlc.enc (r18.1)) rfl rfl rfl) ?_
    refine rv 57 rfl rfl rfl (q_extract (vs := #[tSlc.enc (r18.1), .int .i64 (r18.2)]) (v := .int .i64 (r18.2)) rfl rfl rfl) ?_
    refine rv 13 rfl rfl rfl (q_assign (v := tSlc.enc (r18.1)) rfl rfl) ?_
    refine rv 14 rfl rfl rfl (q_assign (v := .int .i64 (r18.2)) rfl rfl) ?_
    refine ro_nil ?_
    refine wp_seq ?_
    refine wp_text [0, 1, 2, 3, 4, 5, 6] rfl ?_
    refine rv 58 rfl rfl rfl (q_move (v := tSlc.enc (r18.1)) rfl rfl) ?_
    refine rv 59 rfl rfl rfl (q_build47_0_1_2 (v0 := (1 : Int)) (v1 := (6 : Int)) (v2 := ([98] : List UInt8)) rfl rfl rfl rfl) ?_
    refine rv 60 rfl rfl rfl (q_build47_0_1_2 (v0 := (3 : Int)) (v1 := (1 : Int)) (v2 := ([99] : List UInt8)) rfl rfl rfl rfl) ?_
    obtain ⟨a19, w20, ha19, hw20, h⟩ := nwS_open h
    refine rv 61 rfl rfl rfl (q_rowOf (T := T46) (xs := [(⟨(1 : Int), (6 : Int), ([98] : List UInt8)⟩ : S46), (⟨(3 : Int), (1 : Int), ([99] : List UInt8)⟩ : S46)]) rfl Try.underlying23 ok47 inf47 rfl (by decide) (by decide) rfl ha19 hw20) ?_
    obtain ⟨a21, w22, ha21, hw22, h⟩ := nwS_open h
    refine rv 62 rfl rfl rfl (q_rowOf (T := tSlc) (xs := [r18.1, (⟨some a19, 2, 2⟩ : Slc)]) rfl Try.underlying22 ok23 inf23 rfl (by decide) (by decide) rfl ha21 hw22) ?_
    refine ro_wp rfl (.free rfl) (wp_cl (d := (some 63)) rfl (q_call (k := 8) (l := [tSlc.enc ((⟨some a21, 2, 2⟩ : Slc))]) rfl ent8 rfl) h ?_)
    intro r24 w23 h
    refine rv 15 rfl rfl rfl (q_assign (v := tSlc.enc (r24)) rfl rfl) ?_
    refine ro_nil ?_
    refine wp_seq ?_
    refine wp_text [0, 1, 2, 3, 4, 5, 6, 7, 8, 9, 10, 11, 12, 13, 14, 15, 16, 17, 18, 19, 20, 21, 22, 23, 24, 25, 26, 27, 28, 29, 30, 31, 32, 33, 34, 35, 36, 37, 38, 39, 40, 41, 42, 43, 44, 45, 46, 47, 48, 49, 50, 51, 52, 53, 54, 55, 56, 57, 58, 59, 60, 61, 62, 63, 64, 65, 66, 67, 68, 69, 70, 71, 72, 73, 74, 75] rfl ?_
    refine rv 64 rfl rfl rfl (q_move (v := tSlc.enc (r6.1)) rfl rfl) ?_
    refine rv 65 rfl rfl rfl (q_len (s := r6.1) rfl Try.underlying23 rfl) ?_
    refine rv 66 rfl rfl rfl (q_eql (a := (r6.1.len : Int)) (b := (0 : Int)) rfl rfl rfl) ?_
    refine rv 67 rfl rfl rfl (q_move (v := .bool (((r6.1.len : Int) == (0 : Int)))) rfl rfl) ?_
    refine ro_gval (g := ((r6.1.len : Int) == (0 : Int))) (d := (some 68)) rfl (.yes 3 67 true ((r6.1.len : Int) == (0 : Int)) rfl rfl rfl rfl) rfl (fun hg => q_move (v := .int .i64 (r6.2)) rfl rfl) ?_
    refine ro_gval (g := ((r6.1.len : Int) == (0 : Int))) (d := (some 69)) rfl (.yes 3 67 true ((r6.1.len : Int) == (0 : Int)) rfl rfl rfl rfl) rfl (fun hg => q_eql (a := r6.2) (b := (0 : Int)) rfl (gvb_yes hg) rfl) ?_
    refine rv 70 rfl rfl rfl (q_pickGT (a := ((r6.1.len : Int) == (0 : Int))) (b := (r6.2 == (0 : Int))) rfl rfl rfl rfl) ?_
    refine rv 71 rfl rfl rfl (q_move (v := .bool ((((r6.1.len : Int) == (0 : Int)) && (r6.2 == (0 : Int))))) rfl rfl) ?_
    refine ro_gval (g := (((r6.1.len : Int) == (0 : Int)) && (r6.2 == (0 : Int)))) (d := (some 72)) rfl (.yes 7 71 true (((r6.1.len : Int) == (0 : Int)) && (r6.2 == (0 : Int))) rfl rfl rfl rfl) rfl (fun hg => q_move (v := .int .i64 (r8)) rfl rfl) ?_
    refine ro_gval (g := (((r6.1.len : Int) == (0 : Int)) && (r6.2 == (0 : Int)))) (d := (some 73)) rfl (.yes 7 71 true (((r6.1.len : Int) == (0 : Int)) && (r6.2 == (0 : Int))) rfl rfl rfl rfl) rfl (fun hg => q_eql (a := r8) (b := (0 : Int)) rfl (gvb_yes hg) rfl) ?_
    refine rv 74 rfl rfl rfl (q_pickGT (a := (((r6.1.len : Int) == (0 : Int)) && (r6.2 == (0 : Int)))) (b := (r8 == (0 : Int))) rfl rfl rfl rfl) ?_
    refine rv 75 rfl rfl rfl (q_move (v := .bool (((((r6.1.len : Int) == (0 : Int)) && (r6.2 == (0 : Int))) && (r8 == (0 : Int))))) rfl rfl) ?_
    refine ro_gval (g := ((((r6.1.len : Int) == (0 : Int)) && (r6.2 == (0 : Int))) && (r8 == (0 : Int)))) (d := (some 76)) rfl (.yes 11 75 true ((((r6.1.len : Int) == (0 : Int)) && (r6.2 == (0 : Int))) && (r8 == (0 : Int))) rfl rfl rfl rfl) rfl (fun hg => q_move (v := .int .i64 (r10)) rfl rfl) ?_
    refine ro_gval (g := ((((r6.1.len : Int) == (0 : Int)) && (r6.2 == (0 : Int))) && (r8 == (0 : Int)))) (d := (some 77)) rfl (.yes 11 75 true ((((r6.1.len : Int) == (0 : Int)) && (r6.2 == (0 : Int))) && (r8 == (0 : Int))) rfl rfl rfl rfl) rfl (fun hg => q_eql (a := r10) (b := (234 : Int)) rfl (gvb_yes hg) rfl) ?_
    refine rv 78 rfl rfl rfl (q_pickGT (a := ((((r6.1.len : Int) == (0 : Int)) && (r6.2 == (0 : Int))) && (r8 == (0 : Int)))) (b := (r10 == (234 : Int))) rfl rfl rfl rfl) ?_
    refine rv 79 rfl rfl rfl (q_move (v := .bool ((((((r6.1.len : Int) == (0 : Int)) && (r6.2 == (0 : Int))) && (r8 == (0 : Int))) && (r10 == (234 : Int))))) rfl rfl) ?_
    refine ro_gval (g := (((((r6.1.len : Int) == (0 : Int)) && (r6.2 == (0 : Int))) && (r8 == (0 : Int))) && (r10 == (234 : Int)))) (d := (some 80)) rfl (.yes 15 79 true (((((r6.1.len : Int) == (0 : Int)) && (r6.2 == (0 : Int))) && (r8 == (0 : Int))) && (r10 == (234 : Int))) rfl rfl rfl rfl) rfl (fun hg => q_move (v := .int .i64 (r12)) rfl rfl) ?_
    refine ro_gval (g := (((((r6.1.len : Int) == (0 : Int)) && (r6.2 == (0 : Int))) && (r8 == (0 : Int))) && (r10 == (234 : Int)))) (d := (some 81)) rfl (.yes 15 79 true (((((r6.1.len : Int) == (0 : Int)) && (r6.2 == (0 : Int))) && (r8 == (0 : Int))) && (r10 == (234 : Int))) rfl rfl rfl rfl) rfl (fun hg => q_eql (a := r12) (b := (235 : Int)) rfl (gvb_yes hg) rfl) ?_
    refine rv 82 rfl rfl rfl (q_pickGT (a := (((((r6.1.len : Int) == (0 : Int)) && (r6.2 == (0 : Int))) && (r8 == (0 : Int))) && (r10 == (234 : Int)))) (b := (r12 == (235 : Int))) rfl rfl rfl rfl) ?_
    refine rv 83 rfl rfl rfl (q_move (v := .bool (((((((r6.1.len : Int) == (0 : Int)) && (r6.2 == (0 : Int))) && (r8 == (0 : Int))) && (r10 == (234 : Int))) && (r12 == (235 : Int))))) rfl rfl) ?_
    refine ro_gval (g := ((((((r6.1.len : Int) == (0 : Int)) && (r6.2 == (0 : Int))) && (r8 == (0 : Int))) && (r10 == (234 : Int))) && (r12 == (235 : Int)))) (d := (some 84)) rfl (.yes 19 83 true ((((((r6.1.len : Int) == (0 : Int)) && (r6.2 == (0 : Int))) && (r8 == (0 : Int))) && (r10 == (234 : Int))) && (r12 == (235 : Int))) rfl rfl rfl rfl) rfl (fun hg => q_move (v := .int .i64 (r14)) rfl rfl) ?_
    refine ro_gval (g := ((((((r6.1.len : Int) == (0 : Int)) && (r6.2 == (0 : Int))) && (r8 == (0 : Int))) && (r10 == (234 : Int))) && (r12 == (235 : Int)))) (d := (some 85)) rfl (.yes 19 83 true ((((((r6.1.len : Int) == (0 : Int)) && (r6.2 == (0 : Int))) && (r8 == (0 : Int))) && (r10 == (234 : Int))) && (r12 == (235 : Int))) rfl rfl rfl rfl) rfl (fun hg => q_eql (a := r14) (b := (0 : Int)) rfl (gvb_yes hg) rfl) ?_
    refine rv 86 rfl rfl rfl (q_pickGT (a := ((((((r6.1.len : Int) == (0 : Int)) && (r6.2 == (0 : Int))) && (r8 == (0 : Int))) && (r10 == (234 : Int))) && (r12 == (235 : Int)))) (b := (r14 == (0 : Int))) rfl rfl rfl rfl) ?_
    refine rv 87 rfl rfl rfl (q_move (v := .bool ((((((((r6.1.len : Int) == (0 : Int)) && (r6.2 == (0 : Int))) && (r8 == (0 : Int))) && (r10 == (234 : Int))) && (r12 == (235 : Int))) && (r14 == (0 : Int))))) rfl rfl) ?_
    refine ro_gval (g := (((((((r6.1.len : Int) == (0 : Int)) && (r6.2 == (0 : Int))) && (r8 == (0 : Int))) && (r10 == (234 : Int))) && (r12 == (235 : Int))) && (r14 == (0 : Int)))) (d := (some 88)) rfl (.yes 23 87 true (((((((r6.1.len : Int) == (0 : Int)) && (r6.2 == (0 : Int))) && (r8 == (0 : Int))) && (r10 == (234 : Int))) && (r12 == (235 : Int))) && (r14 == (0 : Int))) rfl rfl rfl rfl) rfl (fun hg => q_move (v := .int .i64 (r16.2)) rfl rfl) ?_
    refine ro_gval (g := (((((((r6.1.len : Int) == (0 : Int)) && (r6.2 == (0 : Int))) && (r8 == (0 : Int))) && (r10 == (234 : Int))) && (r12 == (235 : Int))) && (r14 == (0 : Int)))) (d := (some 89)) rfl (.yes 23 87 true (((((((r6.1.len : Int) == (0 : Int)) && (r6.2 == (0 : Int))) && (r8 == (0 : Int))) && (r10 == (234 : Int))) && (r12 == (235 : Int))) && (r14 == (0 : Int))) rfl rfl rfl rfl) rfl (fun hg => q_eql (a := r16.2) (b := (234 : Int)) rfl (gvb_yes hg) rfl) ?_
    refine rv 90 rfl rfl rfl (q_pickGT (a := (((((((r6.1.len : Int) == (0 : Int)) && (r6.2 == (0 : Int))) && (r8 == (0 : Int))) && (r10 == (234 : Int))) && (r12 == (235 : Int))) && (r14 == (0 : Int)))) (b := (r16.2 == (234 : Int))) rfl rfl rfl rfl) ?_
    refine rv 91 rfl rfl rfl (q_move (v := .bool (((((((((r6.1.len : Int) == (0 : Int)) && (r6.2 == (0 : Int))) && (r8 == (0 : Int))) && (r10 == (234 : Int))) && (r12 == (235 : Int))) && (r14 == (0 : Int))) && (r16.2 == (234 : Int))))) rfl rfl) ?_
    refine ro_gval (g := ((((((((r6.1.len : Int) == (0 : Int)) && (r6.2 == (0 : Int))) && (r8 == (0 : Int))) && (r10 == (234 : Int))) && (r12 == (235 : Int))) && (r14 == (0 : Int))) && (r16.2 == (234 : Int)))) (d := (some 92)) rfl (.yes 27 91 true ((((((((r6.1.len : Int) == (0 : Int)) && (r6.2 == (0 : Int))) && (r8 == (0 : Int))) && (r10 == (234 : Int))) && (r12 == (235 : Int))) && (r14 == (0 : Int))) && (r16.2 == (234 : Int))) rfl rfl rfl rfl) rfl (fun hg => q_move (v := .int .i64 (r18.2)) rfl rfl) ?_
    refine ro_gval (g := ((((((((r6.1.len : Int) == (0 : Int)) && (r6.2 == (0 : Int))) && (r8 == (0 : Int))) && (r10 == (234 : Int))) && (r12 == (235 : Int))) && (r14 == (0 : Int))) && (r16.2 == (234 : Int)))) (d := (some 93)) rfl (.yes 27 91 true ((((((((r6.1.len : Int) == (0 : Int)) && (r6.2 == (0 : Int))) && (r8 == (0 : Int))) && (r10 == (234 : Int))) && (r12 == (235 : Int))) && (r14 == (0 : Int))) && (r16.2 == (234 : Int))) rfl rfl rfl rfl) rfl (fun hg => q_eql (a := r18.2) (b := (0 : Int)) rfl (gvb_yes hg) rfl) ?_
    refine rv 94 rfl rfl rfl (q_pickGT (a := ((((((((r6.1.len : Int) == (0 : Int)) && (r6.2 == (0 : Int))) && (r8 == (0 : Int))) && (r10 == (234 : Int))) && (r12 == (235 : Int))) && (r14 == (0 : Int))) && (r16.2 == (234 : Int)))) (b := (r18.2 == (0 : Int))) rfl rfl rfl rfl) ?_
    refine rv 95 rfl rfl rfl (q_move (v := .bool ((((((((((r6.1.len : Int) == (0 : Int)) && (r6.2 == (0 : Int))) && (r8 == (0 : Int))) && (r10 == (234 : Int))) && (r12 == (235 : Int))) && (r14 == (0 : Int))) && (r16.2 == (234 : Int))) && (r18.2 == (0 : Int))))) rfl rfl) ?_
    refine ro_gval (g := (((((((((r6.1.len : Int) == (0 : Int)) && (r6.2 == (0 : Int))) && (r8 == (0 : Int))) && (r10 == (234 : Int))) && (r12 == (235 : Int))) && (r14 == (0 : Int))) && (r16.2 == (234 : Int))) && (r18.2 == (0 : Int)))) (d := (some 96)) rfl (.yes 31 95 true (((((((((r6.1.len : Int) == (0 : Int)) && (r6.2 == (0 : Int))) && (r8 == (0 : Int))) && (r10 == (234 : Int))) && (r12 == (235 : Int))) && (r14 == (0 : Int))) && (r16.2 == (234 : Int))) && (r18.2 == (0 : Int))) rfl rfl rfl rfl) rfl (fun hg => q_move (v := tSlc.enc (r18.1)) rfl rfl) ?_
    refine ro_gval (g := (((((((((r6.1.len : Int) == (0 : Int)) && (r6.2 == (0 : Int))) && (r8 == (0 : Int))) && (r10 == (234 : Int))) && (r12 == (235 : Int))) && (r14 == (0 : Int))) && (r16.2 == (234 : Int))) && (r18.2 == (0 : Int)))) (d := (some 97)) rfl (.yes 31 95 true (((((((((r6.1.len : Int) == (0 : Int)) && (r6.2 == (0 : Int))) && (r8 == (0 : Int))) && (r10 == (234 : Int))) && (r12 == (235 : Int))) && (r14 == (0 : Int))) && (r16.2 == (234 : Int))) && (r18.2 == (0 : Int))) rfl rfl rfl rfl) rfl (fun hg => q_len (s := r18.1) rfl Try.underlying23 (gvb_yes hg)) ?_
    refine ro_gval (g := (((((((((r6.1.len : Int) == (0 : Int)) && (r6.2 == (0 : Int))) && (r8 == (0 : Int))) && (r10 == (234 : Int))) && (r12 == (235 : Int))) && (r14 == (0 : Int))) && (r16.2 == (234 : Int))) && (r18.2 == (0 : Int)))) (d := (some 98)) rfl (.yes 31 95 true (((((((((r6.1.len : Int) == (0 : Int)) && (r6.2 == (0 : Int))) && (r8 == (0 : Int))) && (r10 == (234 : Int))) && (r12 == (235 : Int))) && (r14 == (0 : Int))) && (r16.2 == (234 : Int))) && (r18.2 == (0 : Int))) rfl rfl rfl rfl) rfl (fun hg => q_eql (a := (r18.1.len : Int)) (b := (2 : Int)) rfl (gvb_yes hg) rfl) ?_
    refine rv 99 rfl rfl rfl (q_pickGT (a := (((((((((r6.1.len : Int) == (0 : Int)) && (r6.2 == (0 : Int))) && (r8 == (0 : Int))) && (r10 == (234 : Int))) && (r12 == (235 : Int))) && (r14 == (0 : Int))) && (r16.2 == (234 : Int))) && (r18.2 == (0 : Int)))) (b := ((r18.1.len : Int) == (2 : Int))) rfl rfl rfl rfl) ?_
    refine rv 100 rfl rfl rfl (q_move (v := .bool (((((((((((r6.1.len : Int) == (0 : Int)) && (r6.2 == (0 : Int))) && (r8 == (0 : Int))) && (r10 == (234 : Int))) && (r12 == (235 : Int))) && (r14 == (0 : Int))) && (r16.2 == (234 : Int))) && (r18.2 == (0 : Int))) && ((r18.1.len : Int) == (2 : Int))))) rfl rfl) ?_
    refine ro_gval (g := ((((((((((r6.1.len : Int) == (0 : Int)) && (r6.2 == (0 : Int))) && (r8 == (0 : Int))) && (r10 == (234 : Int))) && (r12 == (235 : Int))) && (r14 == (0 : Int))) && (r16.2 == (234 : Int))) && (r18.2 == (0 : Int))) && ((r18.1.len : Int) == (2 : Int)))) (d := (some 101)) rfl (.yes 36 100 true ((((((((((r6.1.len : Int) == (0 : Int)) && (r6.2 == (0 : Int))) && (r8 == (0 : Int))) && (r10 == (234 : Int))) && (r12 == (235 : Int))) && (r14 == (0 : Int))) && (r16.2 == (234 : Int))) && (r18.2 == (0 : Int))) && ((r18.1.len : Int) == (2 : Int))) rfl rfl rfl rfl) rfl (fun hg => q_move (v := tSlc.enc (r18.1)) rfl rfl) ?_
    obtain ⟨a25, ha25, h⟩ := h
    refine ro_gval (g := ((((((((((r6.1.len : Int) == (0 : Int)) && (r6.2 == (0 : Int))) && (r8 == (0 : Int))) && (r10 == (234 : Int))) && (r12 == (235 : Int))) && (r14 == (0 : Int))) && (r16.2 == (234 : Int))) && (r18.2 == (0 : Int))) && ((r18.1.len : Int) == (2 : Int)))) (d := (some 102)) rfl (.yes 36 100 true ((((((((((r6.1.len : Int) == (0 : Int)) && (r6.2 == (0 : Int))) && (r8 == (0 : Int))) && (r10 == (234 : Int))) && (r12 == (235 : Int))) && (r14 == (0 : Int))) && (r16.2 == (234 : Int))) && (r18.2 == (0 : Int))) && ((r18.1.len : Int) == (2 : Int))) rfl rfl rfl rfl) rfl (fun hg => q_indexAddr (s := r18.1) (i := (1 : Int)) rfl Try.underlying23 ok47 (gvb_yes hg) rfl (ha25 hg)) ?_
    refine ro_gval (g := ((((((((((r6.1.len : Int) == (0 : Int)) && (r6.2 == (0 : Int))) && (r8 == (0 : Int))) && (r10 == (234 : Int))) && (r12 == (235 : Int))) && (r14 == (0 : Int))) && (r16.2 == (234 : Int))) && (r18.2 == (0 : Int))) && ((r18.1.len : Int) == (2 : Int)))) (d := (some 103)) rfl (.yes 36 100 true ((((((((((r6.1.len : Int) == (0 : Int)) && (r6.2 == (0 : Int))) && (r8 == (0 : Int))) && (r10 == (234 : Int))) && (r12 == (235 : Int))) && (r14 == (0 : Int))) && (r16.2 == (234 : Int))) && (r18.2 == (0 : Int))) && ((r18.1.len : Int) == (2 : Int))) rfl rfl rfl rfl) rfl (fun hg => q_fieldAddr (a := a25) (off := 2) rfl Try.underlying47 rfl rfl ok9 (by decide) (gvb_yes hg)) ?_
    obtain ⟨x26, hx26, h⟩ := h
    refine ro_gval (g := ((((((((((r6.1.len : Int) == (0 : Int)) && (r6.2 == (0 : Int))) && (r8 == (0 : Int))) && (r10 == (234 : Int))) && (r12 == (235 : Int))) && (r14 == (0 : Int))) && (r16.2 == (234 : Int))) && (r18.2 == (0 : Int))) && ((r18.1.len : Int) == (2 : Int)))) (d := (some 104)) rfl (.yes 36 100 true ((((((((((r6.1.len : Int) == (0 : Int)) && (r6.2 == (0 : Int))) && (r8 == (0 : Int))) && (r10 == (234 : Int))) && (r12 == (235 : Int))) && (r14 == (0 : Int))) && (r16.2 == (234 : Int))) && (r18.2 == (0 : Int))) && ((r18.1.len : Int) == (2 : Int))) rfl rfl rfl rfl) rfl (fun hg => q_load (T := tStr) (u := x26) (a := (a25.add 2)) rfl ok9 (gvb_yes hg) (hx26 hg)) ?_
    refine ro_gval (g := ((((((((((r6.1.len : Int) == (0 : Int)) && (r6.2 == (0 : Int))) && (r8 == (0 : Int))) && (r10 == (234 : Int))) && (r12 == (235 : Int))) && (r14 == (0 : Int))) && (r16.2 == (234 : Int))) && (r18.2 == (0 : Int))) && ((r18.1.len : Int) == (2 : Int)))) (d := (some 105)) rfl (.yes 36 100 true ((((((((((r6.1.len : Int) == (0 : Int)) && (r6.2 == (0 : Int))) && (r8 == (0 : Int))) && (r10 == (234 : Int))) && (r12 == (235 : Int))) && (r14 == (0 : Int))) && (r16.2 == (234 : Int))) && (r18.2 == (0 : Int))) && ((r18.1.len : Int) == (2 : Int))) rfl rfl rfl rfl) rfl (fun hg => q_eqS (a := x26) (b := ([99] : List UInt8)) rfl (gvb_yes hg) rfl) ?_
    refine rv 106 rfl rfl rfl (q_pickGT (a := ((((((((((r6.1.len : Int) == (0 : Int)) && (r6.2 == (0 : Int))) && (r8 == (0 : Int))) && (r10 == (234 : Int))) && (r12 == (235 : Int))) && (r14 == (0 : Int))) && (r16.2 == (234 : Int))) && (r18.2 == (0 : Int))) && ((r18.1.len : Int) == (2 : Int)))) (b := (x26 == ([99] : List UInt8))) rfl rfl rfl rfl) ?_
    refine rv 107 rfl rfl rfl (q_move (v := .bool ((((((((((((r6.1.len : Int) == (0 : Int)) && (r6.2 == (0 : Int))) && (r8 == (0 : Int))) && (r10 == (234 : Int))) && (r12 == (235 : Int))) && (r14 == (0 : Int))) && (r16.2 == (234 : Int))) && (r18.2 == (0 : Int))) && ((r18.1.len : Int) == (2 : Int))) && (x26 == ([99] : List UInt8))))) rfl rfl) ?_
    refine ro_join (σ := Bool) (J := fun (s : Bool) w => F7_j1 r4 r24 s w R) (fr := fun g (s : Bool) => upd (upd (upd (g) 3 (.pointer (r4.1))) 15 (tSlc.enc (r24))) 111 (.bool (s))) [44, 45, 46, 47] [48, 49, 50, 51, 52, 53, 54, 55, 56, 57, 58, 59, 60, 61, 62, 63, 64, 65, 66, 67, 68, 69, 70, 71, 72, 73, 74, 75] ?_ ?_
    · rintro t_27 g w28 h
      unfold F7_j1 at h
      refine rv 112 rfl rfl rfl (q_move (v := .bool (t_27)) rfl rfl) ?_
      refine ro_join (σ := Bool) (J := fun (s : Bool) w => F7_j2 r24 s w R) (fr := fun g (s : Bool) => upd (upd (g) 15 (tSlc.enc (r24))) 119 (.bool (s))) [49, 50, 51, 52, 53, 54, 55] [56, 57, 58, 59, 60, 61, 62, 63, 64, 65, 66, 67, 68, 69, 70, 71, 72, 73, 74, 75] ?_ ?_
      · rintro t_29 g w30 h
        unfold F7_j2 at h
        refine rv 120 rfl rfl rfl (q_move (v := .bool (t_29)) rfl rfl) ?_
        refine ro_gval (g := t_29) (d := (some 121)) rfl (.yes 56 120 true t_29 rfl rfl rfl rfl) rfl (fun hg => q_move (v := tSlc.enc (r24)) rfl rfl) ?_
        refine ro_gval (g := t_29) (d := (some 122)) rfl (.yes 56 120 true t_29 rfl rfl rfl rfl) rfl (fun hg => q_len (s := r24) rfl Try.underlying23 (gvb_yes hg)) ?_
        refine ro_gval (g := t_29) (d := (some 123)) rfl (.yes 56 120 true t_29 rfl rfl rfl rfl) rfl (fun hg => q_eql (a := (r24.len : Int)) (b := (3 : Int)) rfl (gvb_yes hg) rfl) ?_
        refine rv 124 rfl rfl rfl (q_pickGT (a := t_29) (b := ((r24.len : Int) == (3 : Int))) rfl rfl rfl rfl) ?_
        refine rv 125 rfl rfl rfl (q_move (v := .bool ((t_29 && ((r24.len : Int) == (3 : Int))))) rfl rfl) ?_
        refine ro_gval (g := (t_29 && ((r24.len : Int) == (3 : Int)))) (d := (some 126)) rfl (.yes 61 125 true (t_29 && ((r24.len : Int) == (3 : Int))) rfl rfl rfl rfl) rfl (fun hg => q_move (v := tSlc.enc (r24)) rfl rfl) ?_
        obtain ⟨a31, ha31, h⟩ := h
        refine ro_gval (g := (t_29 && ((r24.len : Int) == (3 : Int)))) (d := (some 127)) rfl (.yes 61 125 true (t_29 && ((r24.len : Int) == (3 : Int))) rfl rfl rfl rfl) rfl (fun hg => q_indexAddr (s := r24) (i := (0 : Int)) rfl Try.underlying23 ok47 (gvb_yes hg) rfl (ha31 hg)) ?_
        refine ro_gval (g := (t_29 && ((r24.len : Int) == (3 : Int)))) (d := (some 128)) rfl (.yes 61 125 true (t_29 && ((r24.len : Int) == (3 : Int))) rfl rfl rfl rfl) rfl (fun hg => q_fieldAddr (a := a31) (off := 2) rfl Try.underlying47 rfl rfl ok9 (by decide) (gvb_yes hg)) ?_
        obtain ⟨x32, hx32, h⟩ := h
        refine ro_gval (g := (t_29 && ((r24.len : Int) == (3 : Int)))) (d := (some 129)) rfl (.yes 61 125 true (t_29 && ((r24.len : Int) == (3 : Int))) rfl rfl rfl rfl) rfl (fun hg => q_load (T := tStr) (u := x32) (a := (a31.add 2)) rfl ok9 (gvb_yes hg) (hx32 hg)) ?_
        refine ro_gval (g := (t_29 && ((r24.len : Int) == (3 : Int)))) (d := (some 130)) rfl (.yes 61 125 true (t_29 && ((r24.len : Int) == (3 : Int))) rfl rfl rfl rfl) rfl (fun hg => q_eqS (a := x32) (b := ([98] : List UInt8)) rfl (gvb_yes hg) rfl) ?_
        refine rv 131 rfl rfl rfl (q_pickGT (a := (t_29 && ((r24.len : Int) == (3 : Int)))) (b := (x32 == ([98] : List UInt8))) rfl rfl rfl rfl) ?_
        refine rv 132 rfl rfl rfl (q_move (v := .bool (((t_29 && ((r24.len : Int) == (3 : Int))) && (x32 == ([98] : List UInt8))))) rfl rfl) ?_
        refine ro_gval (g := ((t_29 && ((r24.len : Int) == (3 : Int))) && (x32 == ([98] : List UInt8)))) (d := (some 133)) rfl (.yes 68 132 true ((t_29 && ((r24.len : Int) == (3 : Int))) && (x32 == ([98] : List UInt8))) rfl rfl rfl rfl) rfl (fun hg => q_move (v := tSlc.enc (r24)) rfl rfl) ?_
        obtain ⟨a33, ha33, h⟩ := h
        refine ro_gval (g := ((t_29 && ((r24.len : Int) == (3 : Int))) && (x32 == ([98] : List UInt8)))) (d := (some 134)) rfl (.yes 68 132 true ((t_29 && ((r24.len : Int) == (3 : Int))) && (x32 == ([98] : List UInt8))) rfl rfl rfl rfl) rfl (fun hg => q_indexAddr (s := r24) (i := (1 : Int)) rfl Try.underlying23 ok47 (gvb_yes hg) rfl (ha33 hg)) ?_
        refine ro_gval (g := ((t_29 && ((r24.len : Int) == (3 : Int))) && (x32 == ([98] : List UInt8)))) (d := (some 135)) rfl (.yes 68 132 true ((t_29 && ((r24.len : Int) == (3 : Int))) && (x32 == ([98] : List UInt8))) rfl rfl rfl rfl) rfl (fun hg => q_fieldAddr (a := a33) (off := 1) rfl Try.underlying47 rfl rfl ok2 (by decide) (gvb_yes hg)) ?_
        obtain ⟨x34, hx34, h⟩ := h
        refine ro_gval (g := ((t_29 && ((r24.len : Int) == (3 : Int))) && (x32 == ([98] : List UInt8)))) (d := (some 136)) rfl (.yes 68 132 true ((t_29 && ((r24.len : Int) == (3 : Int))) && (x32 == ([98] : List UInt8))) rfl rfl rfl rfl) rfl (fun hg => q_load (T := (tInt .i64)) (u := x34) (a := (a33.add 1)) rfl ok2 (gvb_yes hg) (hx34 hg)) ?_
        refine ro_gval (g := ((t_29 && ((r24.len : Int) == (3 : Int))) && (x32 == ([98] : List UInt8)))) (d := (some 137)) rfl (.yes 68 132 true ((t_29 && ((r24.len : Int) == (3 : Int))) && (x32 == ([98] : List UInt8))) rfl rfl rfl rfl) rfl (fun hg => q_eql (a := x34) (b := (7 : Int)) rfl (gvb_yes hg) rfl) ?_
        refine rv 138 rfl rfl rfl (q_pickGT (a := ((t_29 && ((r24.len : Int) == (3 : Int))) && (x32 == ([98] : List UInt8)))) (b := (x34 == (7 : Int))) rfl rfl rfl rfl) ?_
        refine rv 0 rfl rfl rfl (q_assign (v := .bool ((((t_29 && ((r24.len : Int) == (3 : Int))) && (x32 == ([98] : List UInt8))) && (x34 == (7 : Int))))) rfl rfl) ?_
        refine ro_nil ?_
        refine wp_ret ?_
        exact ret_ok rfl (.cons (.tmp (v := .bool ((((t_29 && ((r24.len : Int) == (3 : Int))) && (x32 == ([98] : List UInt8))) && (x34 == (7 : Int))))) rfl) .nil) ⟨(((t_29 && ((r24.len : Int) == (3 : Int))) && (x32 == ([98] : List UInt8))) && (x34 == (7 : Int))), rfl, h⟩
      · refine ro_if (b := t_27) h (fun hb35 h => ?_) (fun hb35 h => ?_)
        · refine ro_val (d := (some 113)) rfl (.by_ 48 true 112 t_27 rfl rfl rfl hb35) rfl (q_move (v := .pointer (r4.1)) rfl rfl) ?_
          obtain ⟨a36, ha36, h⟩ := h
          refine ro_val (d := (some 114)) rfl (.by_ 48 true 112 t_27 rfl rfl rfl hb35) rfl (q_nilCheck (a := a36) rfl (congrArg Value.pointer ha36)) ?_
          refine ro_val (d := (some 115)) rfl (.by_ 48 true 112 t_27 rfl rfl rfl hb35) rfl (q_fieldAddr (a := a36) (off := 0) rfl Try.underlying53 rfl rfl ok50 (by decide) rfl) ?_
          obtain ⟨x37, hx37, h⟩ := h
          refine ro_val (d := (some 116)) rfl (.by_ 48 true 112 t_27 rfl rfl rfl hb35) rfl (q_load (T := tPtr) (u := x37) (a := (a36.add 0)) rfl ok50 rfl hx37) ?_
          refine ro_wp rfl (.by_ 48 true 112 t_27 rfl rfl rfl hb35) (wp_cl (d := (some 117)) rfl (q_call (k := 18) (l := [.pointer (x37)]) rfl ent18 rfl) h ?_)
          intro r39 w38 h
          refine ro_val (d := (some 118)) rfl (.by_ 48 true 112 t_27 rfl rfl rfl hb35) rfl (q_eql (a := r39) (b := (0 : Int)) rfl rfl rfl) ?_
          refine rv 119 rfl rfl rfl (q_pickT (v := .bool ((r39 == (0 : Int)))) (b := t_27) rfl rfl hb35 rfl) ?_
          refine ro_nil ?_
          exact ⟨((r39 == (0 : Int))), _, arr (upd_step (upd_step rfl rfl) rfl), h⟩
        · refine ro_bar (d := (some 113)) rfl (.by_ 48 true 112 t_27 rfl rfl rfl hb35) rfl ?_
          refine ro_bar (d := (some 114)) rfl (.by_ 48 true 112 t_27 rfl rfl rfl hb35) rfl ?_
          refine ro_bar (d := (some 115)) rfl (.by_ 48 true 112 t_27 rfl rfl rfl hb35) rfl ?_
          refine ro_bar (d := (some 116)) rfl (.by_ 48 true 112 t_27 rfl rfl rfl hb35) rfl ?_
          refine ro_bar (d := (some 117)) rfl (.by_ 48 true 112 t_27 rfl rfl rfl hb35) rfl ?_
          refine ro_bar (d := (some 118)) rfl (.by_ 48 true 112 t_27 rfl rfl rfl hb35) rfl ?_
          refine rv 119 rfl rfl rfl (q_pickF (v := .bool (false)) (b := t_27) rfl rfl hb35 rfl) ?_
          refine ro_nil ?_
          exact ⟨(false), _, arr (upd_step (upd_step rfl rfl) rfl), h⟩
    · refine ro_if (b := (((((((((((r6.1.len : Int) == (0 : Int)) && (r6.2 == (0 : Int))) && (r8 == (0 : Int))) && (r10 == (234 : Int))) && (r12 == (235 : Int))) && (r14 == (0 : Int))) && (r16.2 == (234 : Int))) && (r18.2 == (0 : Int))) && ((r18.1.len : Int) == (2 : Int))) && (x26 == ([99] : List UInt8)))) h (fun hb40 h => ?_) (fun hb40 h => ?_)
      · refine ro_val (d := (some 108)) rfl (.by_ 43 true 107 (((((((((((r6.1.len : Int) == (0 : Int)) && (r6.2 == (0 : Int))) && (r8 == (0 : Int))) && (r10 == (234 : Int))) && (r12 == (235 : Int))) && (r14 == (0 : Int))) && (r16.2 == (234 : Int))) && (r18.2 == (0 : Int))) && ((r18.1.len : Int) == (2 : Int))) && (x26 == ([99] : List UInt8))) rfl rfl rfl hb40) rfl (q_move (v := .pointer (r4.1)) rfl rfl) ?_
        refine ro_wp rfl (.by_ 43 true 107 (((((((((((r6.1.len : Int) == (0 : Int)) && (r6.2 == (0 : Int))) && (r8 == (0 : Int))) && (r10 == (234 : Int))) && (r12 == (235 : Int))) && (r14 == (0 : Int))) && (r16.2 == (234 : Int))) && (r18.2 == (0 : Int))) && ((r18.1.len : Int) == (2 : Int))) && (x26 == ([99] : List UInt8))) rfl rfl rfl hb40) (wp_cl (d := (some 109)) rfl (q_call (k := 15) (l := [.pointer (r4.1)]) rfl ent15 rfl) h ?_)
        intro r42 w41 h
        refine ro_val (d := (some 110)) rfl (.by_ 43 true 107 (((((((((((r6.1.len : Int) == (0 : Int)) && (r6.2 == (0 : Int))) && (r8 == (0 : Int))) && (r10 == (234 : Int))) && (r12 == (235 : Int))) && (r14 == (0 : Int))) && (r16.2 == (234 : Int))) && (r18.2 == (0 : Int))) && ((r18.1.len : Int) == (2 : Int))) && (x26 == ([99] : List UInt8))) rfl rfl rfl hb40) rfl (q_eql (a := r42) (b := (7 : Int)) rfl rfl rfl) ?_
        refine rv 111 rfl rfl rfl (q_pickT (v := .bool ((r42 == (7 : Int)))) (b := (((((((((((r6.1.len : Int) == (0 : Int)) && (r6.2 == (0 : Int))) && (r8 == (0 : Int))) && (r10 == (234 : Int))) && (r12 == (235 : Int))) && (r14 == (0 : Int))) && (r16.2 == (234 : Int))) && (r18.2 == (0 : Int))) && ((r18.1.len : Int) == (2 : Int))) && (x26 == ([99] : List UInt8)))) rfl rfl hb40 rfl) ?_
        refine ro_nil ?_
        exact ⟨((r42 == (7 : Int))), _, arr (upd_step (upd_step (upd_step rfl rfl) rfl) rfl), h⟩
      · refine ro_bar (d := (some 108)) rfl (.by_ 43 true 107 (((((((((((r6.1.len : Int) == (0 : Int)) && (r6.2 == (0 : Int))) && (r8 == (0 : Int))) && (r10 == (234 : Int))) && (r12 == (235 : Int))) && (r14 == (0 : Int))) && (r16.2 == (234 : Int))) && (r18.2 == (0 : Int))) && ((r18.1.len : Int) == (2 : Int))) && (x26 == ([99] : List UInt8))) rfl rfl rfl hb40) rfl ?_
        refine ro_bar (d := (some 109)) rfl (.by_ 43 true 107 (((((((((((r6.1.len : Int) == (0 : Int)) && (r6.2 == (0 : Int))) && (r8 == (0 : Int))) && (r10 == (234 : Int))) && (r12 == (235 : Int))) && (r14 == (0 : Int))) && (r16.2 == (234 : Int))) && (r18.2 == (0 : Int))) && ((r18.1.len : Int) == (2 : Int))) && (x26 == ([99] : List UInt8))) rfl rfl rfl hb40) rfl ?_
        refine ro_bar (d := (some 110)) rfl (.by_ 43 true 107 (((((((((((r6.1.len : Int) == (0 : Int)) && (r6.2 == (0 : Int))) && (r8 == (0 : Int))) && (r10 == (234 : Int))) && (r12 == (235 : Int))) && (r14 == (0 : Int))) && (r16.2 == (234 : Int))) && (r18.2 == (0 : Int))) && ((r18.1.len : Int) == (2 : Int))) && (x26 == ([99] : List UInt8))) rfl rfl rfl hb40) rfl ?_
        refine rv 111 rfl rfl rfl (q_pickF (v := .bool (false)) (b := (((((((((((r6.1.len : Int) == (0 : Int)) && (r6.2 == (0 : Int))) && (r8 == (0 : Int))) && (r10 == (234 : Int))) && (r12 == (235 : Int))) && (r14 == (0 : Int))) && (r16.2 == (234 : Int))) && (r18.2 == (0 : Int))) && ((r18.1.len : Int) == (2 : Int))) && (x26 == ([99] : List UInt8)))) rfl rfl hb40 rfl) ?_
        refine ro_nil ?_
        exact ⟨(false), _, arr (upd_step (upd_step (upd_step rfl rfl) rfl) rfl), h⟩

-- moiety/ballot.Pick
def F8_j3 (t_9 : Int) (w12 : World) (K11 : Int → World → Prop) (R : Slc → World → Prop) : Prop :=
  K11 ((IntKind.i64.wrap (t_9 + (1 : Int)))) w12
def F8_l2 (m3 : Nat) (t_4 : Int) (x8 : Slc) (t_9 : Int) (w10 : World) (K6 : Int → World → Prop) (K11 : Int → World → Prop) (R : Slc → World → Prop) : Prop :=
  if (decide (t_9 < (x8.len : Int))) = true then (
    ex (IxA x8 3 t_9) fun a13 =>
    ex (RdAt T46 a13 w10) fun x14 =>
    nw 47 T46 Z46 w10 fun a15 w16 =>
    st T46 a15 x14 w16 fun w17 =>
    ex (RdAt (tInt .i64) (a15.add 0) w17) fun x18 =>
    ex (MapGet T46 .i64 (some m3) x18 w17) fun m19 =>
    nw 47 T46 Z46 w17 fun a20 w21 =>
    st T46 a20 (((m19.getD Z46, m19.isSome)).1) w21 fun w22 =>
    ex (fun x => (!(!(((m19.getD Z46, m19.isSome)).2))) = true → (RdAt (tInt .i64) (a15.add 1) w22) x) fun x23 =>
    ex (fun x => (!(!(((m19.getD Z46, m19.isSome)).2))) = true → (RdAt (tInt .i64) (a20.add 1) w22) x) fun x24 =>
    if ((!(((m19.getD Z46, m19.isSome)).2)) || (decide (x23 > x24))) = true then (
      ex (RdAt (tInt .i64) (a15.add 0) w22) fun x25 =>
      ex (RdAt T46 a15 w22) fun x26 =>
      mput T46 .i64 (some m3) x25 x26 w22 fun w27 =>
      F8_j3 t_9 w27 K11 R
    ) else (
      F8_j3 t_9 w22 K11 R
    )
  ) else (
    K6 ((IntKind.i64.wrap (t_4 + (1 : Int)))) w10
  )
def F8_l1 (l_1 : Slc) (m3 : Nat) (t_4 : Int) (w5 : World) (K6 : Int → World → Prop) (R : Slc → World → Prop) : Prop :=
  if (decide (t_4 < (l_1.len : Int))) = true then (
    ex (IxA l_1 1 t_4) fun a7 =>
    ex (RdAt tSlc a7 w5) fun x8 =>
    lp (fun (s : Int) w K => F8_l2 m3 t_4 x8 s w K6 K R) ((0 : Int)) w5
  ) else (
    cl Try.prog 22 [.map ((some m3))] tSlc w5 fun r31 w30 =>
    R r31 w30
  )
def F8 (l_1 : Slc) (w : World) (R : Slc → World → Prop) : Prop :=
  nwMap w fun m3 w2 =>
  lp (fun (s : Int) w K => F8_l1 l_1 m3 s w K R) ((0 : Int)) w2
theorem F8_ok {l_1 : Slc} {w : World} {R : Slc → World → Prop} (h : F8 l_1 w R) : cl Try.prog 8 [tSlc.enc (l_1)] tSlc w R := by
  unfold F8 at h
  refine calls_start 47 Try.func8 rfl rfl (Nat.le_of_ble_eq_true rfl) ?_
  refine wp_seq ?_
  refine wp_text [0] rfl ?_
  refine rv 2 rfl rfl rfl (q_assign (v := tSlc.enc ((⟨none, 0, 0⟩ : Slc))) rfl rfl) ?_
  refine ro_nil ?_
  refine wp_seq ?_
  refine wp_text [0, 1] rfl ?_
  obtain ⟨m3, w2, hm3, hw2, h⟩ := nwMap_open h
  refine rv 10 rfl rfl rfl (q_makeMap rfl hm3 hw2) ?_
  refine rv 3 rfl rfl rfl (q_assign (v := .map ((some m3))) rfl rfl) ?_
  refine ro_nil ?_
  refine wp_seq ?_
  refine wp_seq ?_
  refine wp_text [0, 1, 2] rfl ?_
  refine rv 11 rfl rfl rfl (q_move (v := tSlc.enc (l_1)) rfl rfl) ?_
  refine rv 12 rfl rfl rfl (q_len (s := l_1) rfl Try.underlying22 rfl) ?_
  refine rv 13 rfl rfl rfl (q_move (v := .int .i64 ((0 : Int))) rfl rfl) ?_
  refine ro_nil ?_
  refine wp_block ?_
  refine loop_at (σ := Int) (fr := fun g (s : Int) => upd (upd (upd (upd (g) 3 (.map ((some m3)))) 11 (tSlc.enc (l_1))) 12 (.int .i64 ((l_1.len : Int)))) 13 (.int .i64 (s))) (s0 := ((0 : Int))) (upd_step (upd_step (upd_step (upd_step rfl rfl) rfl) rfl) rfl) h ?_
  rintro t_4 g w5 K6 h
  unfold F8_l1 at h
  refine wp_seq ?_
  refine wp_text [0] rfl ?_
  refine rv 14 rfl rfl rfl (q_lss (a := t_4) (b := (l_1.len : Int)) rfl rfl rfl) ?_
  refine ro_nil ?_
  refine wp_seq ?_
  refine wp_if (b := (decide (t_4 < (l_1.len : Int)))) rfl h (fun hb32 h => ?_) (fun hb32 h => ?_)
  · refine wp_skip ?_
    refine wp_seq ?_
    refine wp_block ?_
    refine wp_seq ?_
    refine wp_text [0, 1, 2] rfl ?_
    obtain ⟨a7, ha7, h⟩ := h
    refine rv 15 rfl rfl rfl (q_indexAddr (s := l_1) (i := t_4) rfl Try.underlying22 ok23 rfl rfl ha7) ?_
    obtain ⟨x8, hx8, h⟩ := h
    refine rv 16 rfl rfl rfl (q_load (T := tSlc) (u := x8) (a := a7) rfl ok23 rfl hx8) ?_
    refine rv 5 rfl rfl rfl (q_assign (v := tSlc.enc (x8)) rfl rfl) ?_
    refine ro_nil ?_
    refine wp_seq ?_
    refine wp_text [0, 1, 2] rfl ?_
    refine rv 17 rfl rfl rfl (q_move (v := tSlc.enc (x8)) rfl rfl) ?_
    refine rv 18 rfl rfl rfl (q_len (s := x8) rfl Try.underlying23 rfl) ?_
    refine rv 19 rfl rfl rfl (q_move (v := .int .i64 ((0 : Int))) rfl rfl) ?_
    refine ro_nil ?_
    refine wp_block ?_
    refine loop_at (σ := Int) (fr := fun g (s : Int) => upd (upd (upd (upd (upd (upd (upd (g) 3 (.map ((some m3)))) 11 (tSlc.enc (l_1))) 12 (.int .i64 ((l_1.len : Int)))) 13 (.int .i64 (t_4))) 17 (tSlc.enc (x8))) 18 (.int .i64 ((x8.len : Int)))) 19 (.int .i64 (s))) (s0 := ((0 : Int))) (upd_step (upd_step (upd_step (upd_step (upd_step (upd_step (upd_step rfl rfl) rfl) rfl) rfl) rfl) rfl) rfl) h ?_
    rintro t_9 g w10 K11 h
    unfold F8_l2 at h
    refine wp_seq ?_
    refine wp_text [0] rfl ?_
    refine rv 20 rfl rfl rfl (q_lss (a := t_9) (b := (x8.len : Int)) rfl rfl rfl) ?_
    refine ro_nil ?_
    refine wp_seq ?_
    refine wp_if (b := (decide (t_9 < (x8.len : Int)))) rfl h (fun hb29 h => ?_) (fun hb29 h => ?_)
    · refine wp_skip ?_
      refine seq_join (σ := Unit) (J := fun (s : Unit) w => F8_j3 t_9 w K11 R) (fr := fun g (s : Unit) => upd (upd (upd (upd (upd (upd (upd (g) 3 (.map ((some m3)))) 11 (tSlc.enc (l_1))) 12 (.int .i64 ((l_1.len : Int)))) 13 (.int .i64 (t_4))) 17 (tSlc.enc (x8))) 18 (.int .i64 ((x8.len : Int)))) 19 (.int .i64 (t_9))) ?_ ?_
      · rintro ⟨⟩ g w12 h
        unfold F8_j3 at h
        refine wp_text [0, 1] rfl ?_
        refine rv 43 rfl rfl rfl (q_add (a := t_9) (b := (1 : Int)) rfl rfl rfl) ?_
        refine rv 19 rfl rfl rfl (q_move (v := .int .i64 ((IntKind.i64.wrap (t_9 + (1 : Int))))) rfl rfl) ?_
        refine ro_nil ?_
        exact ⟨((IntKind.i64.wrap (t_9 + (1 : Int)))), _, arr (upd_step (upd_step (upd_step (upd_step (upd_step (upd_step (upd_step rfl rfl) rfl) rfl) rfl) rfl) rfl) rfl), h⟩
      · refine wp_block ?_
        refine wp_seq ?_
        refine wp_text [0, 1, 2, 3] rfl ?_
        obtain ⟨a13, ha13, h⟩ := h
        refine rv 21 rfl rfl rfl (q_indexAddr (s := x8) (i := t_9) rfl Try.underlying23 ok47 rfl rfl ha13) ?_
        obtain ⟨x14, hx14, h⟩ := h
        refine rv 22 rfl rfl rfl (q_load (T := T46) (u := x14) (a := a13) rfl ok47 rfl hx14) ?_
        obtain ⟨a15, w16, ha15, hw16, h⟩ := nw_open h
        refine rv 7 rfl rfl rfl (q_alloc (u := Z46) rfl ok47 inf47 ha15 hw16) ?_
        obtain ⟨w17, hw17, hrw17, h⟩ := st_open h
        refine ro_skip (d := none) rfl (.free rfl) rfl (q_store (T := T46) (u := x14) (a := a15) rfl ok47 rfl rfl hrw17 hw17) ?_
        refine ro_nil ?_
        refine wp_seq ?_
        refine wp_text [0, 1, 2, 3, 4, 5, 6, 7, 8, 9] rfl ?_
        refine rv 24 rfl rfl rfl (q_move (v := .map ((some m3))) rfl rfl) ?_
        refine rv 25 rfl rfl rfl (q_fieldAddr (a := a15) (off := 0) rfl Try.underlying47 rfl rfl ok3 (by decide) rfl) ?_
        obtain ⟨x18, hx18, h⟩ := h
        refine rv 26 rfl rfl rfl (q_load (T := (tInt .i64)) (u := x18) (a := (a15.add 0)) rfl ok3 rfl hx18) ?_
        obtain ⟨m19, hm19, h⟩ := h
        refine rv 27 rfl rfl rfl (q_lookup2 (T := T46) (r := (some m3)) (key := x18) (u := m19) (z := Z46) rfl Try.underlying51 Try.underlying3 (inf47) rfl rfl hm19) ?_
        refine rv 23 rfl rfl rfl (q_move (v := (tTup2 T46 tBool).enc (((m19.getD Z46, m19.isSome)))) rfl rfl) ?_
        refine rv 28 rfl rfl rfl (q_extract (vs := #[T46.enc (((m19.getD Z46, m19.isSome)).1), .bool (((m19.getD Z46, m19.isSome)).2)]) (v := T46.enc (((m19.getD Z46, m19.isSome)).1)) rfl rfl rfl) ?_
        refine rv 29 rfl rfl rfl (q_extract (vs := #[T46.enc (((m19.getD Z46, m19.isSome)).1), .bool (((m19.getD Z46, m19.isSome)).2)]) (v := .bool (((m19.getD Z46, m19.isSome)).2)) rfl rfl rfl) ?_
        obtain ⟨a20, w21, ha20, hw21, h⟩ := nw_open h
        refine rv 8 rfl rfl rfl (q_alloc (u := Z46) rfl ok47 inf47 ha20 hw21) ?_
        obtain ⟨w22, hw22, hrw22, h⟩ := st_open h
        refine ro_skip (d := none) rfl (.free rfl) rfl (q_store (T := T46) (u := ((m19.getD Z46, m19.isSome)).1) (a := a20) rfl ok47 rfl rfl hrw22 hw22) ?_
        refine rv 9 rfl rfl rfl (q_assign (v := .bool (((m19.getD Z46, m19.isSome)).2)) rfl rfl) ?_
        refine ro_nil ?_
        refine wp_seq ?_
        refine wp_text [0, 1, 2, 3, 4, 5, 6, 7, 8] rfl ?_
        refine rv 30 rfl rfl rfl (q_move (v := .bool (((m19.getD Z46, m19.isSome)).2)) rfl rfl) ?_
        refine rv 31 rfl rfl rfl (q_not (b := ((m19.getD Z46, m19.isSome)).2) rfl rfl) ?_
        refine rv 32 rfl rfl rfl (q_move (v := .bool ((!(((m19.getD Z46, m19.isSome)).2)))) rfl rfl) ?_
        refine ro_gval (g := (!(!(((m19.getD Z46, m19.isSome)).2)))) (d := (some 33)) rfl (.no 2 32 true (!(((m19.getD Z46, m19.isSome)).2)) rfl rfl rfl rfl) rfl (fun hg => q_fieldAddr (a := a15) (off := 1) rfl Try.underlying47 rfl rfl ok2 (by decide) rfl) ?_
        obtain ⟨x23, hx23, h⟩ := h
        refine ro_gval (g := (!(!(((m19.getD Z46, m19.isSome)).2)))) (d := (some 34)) rfl (.no 2 32 true (!(((m19.getD Z46, m19.isSome)).2)) rfl rfl rfl rfl) rfl (fun hg => q_load (T := (tInt .i64)) (u := x23) (a := (a15.add 1)) rfl ok2 (gvb_yes hg) (hx23 hg)) ?_
        refine ro_gval (g := (!(!(((m19.getD Z46, m19.isSome)).2)))) (d := (some 35)) rfl (.no 2 32 true (!(((m19.getD Z46, m19.isSome)).2)) rfl rfl rfl rfl) rfl (fun hg => q_fieldAddr (a := a20) (off := 1) rfl Try.underlying47 rfl rfl ok2 (by decide) rfl) ?_
        obtain ⟨x24, hx24, h⟩ := h
        refine ro_gval (g := (!(!(((m19.getD Z46, m19.isSome)).2)))) (d := (some 36)) rfl (.no 2 32 true (!(((m19.getD Z46, m19.isSome)).2)) rfl rfl rfl rfl) rfl (fun hg => q_load (T := (tInt .i64)) (u := x24) (a := (a20.add 1)) rfl ok2 (gvb_yes hg) (hx24 hg)) ?_
        refine ro_gval (g := (!(!(((m19.getD Z46, m19.isSome)).2)))) (d := (some 37)) rfl (.no 2 32 true (!(((m19.getD Z46, m19.isSome)).2)) rfl rfl rfl rfl) rfl (fun hg => q_gtr (a := x23) (b := x24) rfl (gvb_yes hg) (gvb_yes hg)) ?_
        refine rv 38 rfl rfl rfl (q_pickGF (a := (!(((m19.getD Z46, m19.isSome)).2))) (c := (decide (x23 > x24))) rfl rfl rfl rfl) ?_
        refine ro_nil ?_
        refine wp_if (b := ((!(((m19.getD Z46, m19.isSome)).2)) || (decide (x23 > x24)))) rfl h (fun hb28 h => ?_) (fun hb28 h => ?_)
        · refine wp_text [0, 1, 2, 3, 4] rfl ?_
          refine rv 39 rfl rfl rfl (q_move (v := .map ((some m3))) rfl rfl) ?_
          refine rv 40 rfl rfl rfl (q_fieldAddr (a := a15) (off := 0) rfl Try.underlying47 rfl rfl ok3 (by decide) rfl) ?_
          obtain ⟨x25, hx25, h⟩ := h
          refine rv 41 rfl rfl rfl (q_load (T := (tInt .i64)) (u := x25) (a := (a15.add 0)) rfl ok3 rfl hx25) ?_
          obtain ⟨x26, hx26, h⟩ := h
          refine rv 42 rfl rfl rfl (q_load (T := T46) (u := x26) (a := a15) rfl ok47 rfl hx26) ?_
          refine ro_wp rfl (.free rfl) (wp_mput (T := T46) (r := (some m3)) (key := x25) (v := x26) (d := none) rfl (.inl rfl) Try.underlying51 Try.underlying3 rfl rfl rfl h ?_)
          intro w27 h
          refine ro_nil ?_
          exact ⟨(), _, arr (upd_step (upd_step (upd_step (upd_step (upd_step (upd_step (upd_step rfl rfl) rfl) rfl) rfl) rfl) rfl) rfl), h⟩
        · refine wp_skip ?_
          exact ⟨(), _, arr (upd_step (upd_step (upd_step (upd_step (upd_step (upd_step (upd_step rfl rfl) rfl) rfl) rfl) rfl) rfl) rfl), h⟩
    · refine wp_exit ?_
      refine wp_text [0, 1] rfl ?_
      refine rv 44 rfl rfl rfl (q_add (a := t_4) (b := (1 : Int)) rfl rfl rfl) ?_
      refine rv 13 rfl rfl rfl (q_move (v := .int .i64 ((IntKind.i64.wrap (t_4 + (1 : Int))))) rfl rfl) ?_
      refine ro_nil ?_
      exact ⟨((IntKind.i64.wrap (t_4 + (1 : Int)))), _, arr (upd_step (upd_step (upd_step (upd_step rfl rfl) rfl) rfl) rfl), h⟩
  · refine wp_exit ?_
    refine wp_seq ?_
    refine wp_text [0, 1, 2] rfl ?_
    refine rv 45 rfl rfl rfl (q_move (v := .map ((some m3))) rfl rfl) ?_
    refine ro_wp rfl (.free rfl) (wp_cl (d := (some 46)) rfl (q_call (k := 22) (l := [.map ((some m3))]) rfl ent22 rfl) h ?_)
    intro r31 w30 h
    refine rv 2 rfl rfl rfl (q_assign (v := tSlc.enc (r31)) rfl rfl) ?_
    refine ro_nil ?_
    refine wp_ret ?_
    exact ret_ok rfl (.cons (.tmp (v := tSlc.enc (r31)) rfl) .nil) ⟨r31, rfl, h⟩

end Go.Proofs.Ytjkmeooncmhonaa.Cf
