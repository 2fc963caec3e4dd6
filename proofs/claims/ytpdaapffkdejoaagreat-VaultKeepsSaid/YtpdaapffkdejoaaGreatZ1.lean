/- Own texts of this claim, part 1: short, merged. -/
import Derived.Test.YtpdaapffkdejoaaGreatZ0
namespace Go.Proofs.YtpdaapffkdejoaaGreat.Cf
open Go
set_option maxRecDepth 100000
set_option maxHeartbeats 1000000
set_option linter.unusedVariables false
set_option linter.unusedSimpArgs false
def F8_j3 (t_41 : Bool) (w42 : World) (R : Bool → World → Prop) : Prop :=
  R t_41 w42
def F8_j2 (r2 : ((Option Addr) × Int)) (t_39 : Bool) (w40 : World) (R : Bool → World → Prop) : Prop :=
  if t_39 = true then (
    ex (NC r2.1) fun a44 =>
    ex (RdAt T29 (a44.add 0) w40) fun x45 =>
    cl Tryz.prog 13 [T29.enc (x45)] (tInt .i64) w40 fun r47 w46 =>
    F8_j3 (r47 == (9 : Int)) w46 R
  ) else (
    F8_j3 false w40 R
  )
def F8_j1 (r2 : ((Option Addr) × Int)) (t_37 : Bool) (w38 : World) (R : Bool → World → Prop) : Prop :=
  if t_37 = true then (
    ex (NC r2.1) fun a49 =>
    ex (RdAt T29 (a49.add 0) w38) fun x50 =>
    cl Tryz.prog 9 [T29.enc (x50)] (tInt .i64) w38 fun r52 w51 =>
    F8_j2 r2 (r52 == (9 : Int)) w51 R
  ) else (
    F8_j2 r2 false w38 R
  )
def F8 (w : World) (R : Bool → World → Prop) : Prop :=
  cl Tryz.prog 22 [.float .f64 ((4576918229304087675 : Nat))] (tTup2 tPtr (tInt .i64)) w fun r2 w1 =>
  if ((r2.2 != (0 : Int)) || r2.1.isNone) = true then (
    R false w1
  ) else (
    cl Tryz.prog 23 [.pointer (r2.1), .int .i64 ((1 : Int)), .int .i64 ((7 : Int)), .int .i64 ((1000 : Int))] (tInt .i64) w1 fun r4 w3 =>
    cl Tryz.prog 21 [.pointer (r2.1), .int .i64 ((5 : Int)), T52.enc ((⟨(1 : Int), (7 : Int), (200 : Int), true⟩ : S52))] (tInt .i64) w3 fun r6 w5 =>
    cl Tryz.prog 21 [.pointer (r2.1), .int .i64 ((6 : Int)), T52.enc ((⟨(2 : Int), (7 : Int), (1 : Int), false⟩ : S52))] (tInt .i64) w5 fun r8 w7 =>
    cl Tryz.prog 19 [.pointer (r2.1), .int .i64 ((5 : Int))] (tInt .i64) w7 fun r10 w9 =>
    cl Tryz.prog 19 [.pointer (r2.1), .int .i64 ((4 : Int))] (tInt .i64) w9 fun r12 w11 =>
    cl Tryz.prog 17 [.pointer (r2.1)] tSlc w11 fun r14 w13 =>
    cl Tryz.prog 15 [.pointer (r2.1), .int .i64 ((9 : Int)), .int .i64 ((1 : Int))] (tInt .i64) w13 fun r16 w15 =>
    cl Tryz.prog 19 [.pointer (r2.1), .int .i64 ((9 : Int))] (tInt .i64) w15 fun r18 w17 =>
    cl Tryz.prog 24 [.pointer (r2.1), .int .i64 ((7 : Int)), .int .i64 ((8 : Int))] (tTup2 (tInt .i64) (tInt .i64)) w17 fun r20 w19 =>
    cl Tryz.prog 10 [.pointer (r2.1), .int .i64 ((9 : Int))] (tTup2 tSlc (tInt .i64)) w19 fun r22 w21 =>
    cl Tryz.prog 16 [.pointer (r2.1), .int .i64 ((1 : Int))] (tInt .i64) w21 fun r24 w23 =>
    cl Tryz.prog 16 [.pointer (r2.1), .int .i64 ((3 : Int))] (tInt .i64) w23 fun r26 w25 =>
    cl Tryz.prog 14 [.pointer (r2.1), .int .i64 ((1 : Int))] (tTup2 (tInt .i64) (tInt .i64)) w25 fun r28 w27 =>
    cl Tryz.prog 25 [.pointer (r2.1), .int .i64 ((9 : Int))] (tInt .i64) w27 fun r30 w29 =>
    ex (fun x => ((((((r4 == (0 : Int)) && (r6 == (0 : Int))) && (r8 == (160 : Int))) && (r10 == (160 : Int))) && (r12 == (0 : Int))) && ((r14.len : Int) == (1 : Int))) = true → (IxA r14 6 (0 : Int)) x) fun a31 =>
    ex (fun x => ((((((r4 == (0 : Int)) && (r6 == (0 : Int))) && (r8 == (160 : Int))) && (r10 == (160 : Int))) && (r12 == (0 : Int))) && ((r14.len : Int) == (1 : Int))) = true → (RdAt (tInt .i64) (a31.add 5) w29) x) fun x32 =>
    ex (fun x => (((((((((((((r4 == (0 : Int)) && (r6 == (0 : Int))) && (r8 == (160 : Int))) && (r10 == (160 : Int))) && (r12 == (0 : Int))) && ((r14.len : Int) == (1 : Int))) && (x32 == (2 : Int))) && (r16 == (0 : Int))) && (r18 == (0 : Int))) && (r20.1 == (1000 : Int))) && (r20.2 == (0 : Int))) && (r22.2 == (0 : Int))) && ((r22.1.len : Int) == (2 : Int))) = true → (IxA r22.1 2 (0 : Int)) x) fun a33 =>
    ex (fun x => (((((((((((((r4 == (0 : Int)) && (r6 == (0 : Int))) && (r8 == (160 : Int))) && (r10 == (160 : Int))) && (r12 == (0 : Int))) && ((r14.len : Int) == (1 : Int))) && (x32 == (2 : Int))) && (r16 == (0 : Int))) && (r18 == (0 : Int))) && (r20.1 == (1000 : Int))) && (r20.2 == (0 : Int))) && (r22.2 == (0 : Int))) && ((r22.1.len : Int) == (2 : Int))) = true → (RdAt (tInt .i64) (a33.add 1) w29) x) fun x34 =>
    ex (fun x => ((((((((((((((r4 == (0 : Int)) && (r6 == (0 : Int))) && (r8 == (160 : Int))) && (r10 == (160 : Int))) && (r12 == (0 : Int))) && ((r14.len : Int) == (1 : Int))) && (x32 == (2 : Int))) && (r16 == (0 : Int))) && (r18 == (0 : Int))) && (r20.1 == (1000 : Int))) && (r20.2 == (0 : Int))) && (r22.2 == (0 : Int))) && ((r22.1.len : Int) == (2 : Int))) && (x34 == (798 : Int))) = true → (IxA r22.1 2 (1 : Int)) x) fun a35 =>
    ex (fun x => ((((((((((((((r4 == (0 : Int)) && (r6 == (0 : Int))) && (r8 == (160 : Int))) && (r10 == (160 : Int))) && (r12 == (0 : Int))) && ((r14.len : Int) == (1 : Int))) && (x32 == (2 : Int))) && (r16 == (0 : Int))) && (r18 == (0 : Int))) && (r20.1 == (1000 : Int))) && (r20.2 == (0 : Int))) && (r22.2 == (0 : Int))) && ((r22.1.len : Int) == (2 : Int))) && (x34 == (798 : Int))) = true → (RdAt (tInt .i64) (a35.add 0) w29) x) fun x36 =>
    if ((((((((((((((((((((r4 == (0 : Int)) && (r6 == (0 : Int))) && (r8 == (160 : Int))) && (r10 == (160 : Int))) && (r12 == (0 : Int))) && ((r14.len : Int) == (1 : Int))) && (x32 == (2 : Int))) && (r16 == (0 : Int))) && (r18 == (0 : Int))) && (r20.1 == (1000 : Int))) && (r20.2 == (0 : Int))) && (r22.2 == (0 : Int))) && ((r22.1.len : Int) == (2 : Int))) && (x34 == (798 : Int))) && (x36 == (4103 : Int))) && (r24 == (157 : Int))) && (r26 == (0 : Int))) && (r28.1 == (2 : Int))) && (r28.2 == (9 : Int))) && (r30 == (0 : Int))) = true then (
      cl Tryz.prog 18 [.pointer (r2.1)] (tInt .i64) w29 fun r55 w54 =>
      F8_j1 r2 (r55 == (9 : Int)) w54 R
    ) else (
      F8_j1 r2 false w29 R
    )
  )
theorem F8_ok {w : World} {R : Bool → World → Prop} (h : F8 w R) : cl Tryz.prog 8 [] tBool w R := by
  unfold F8 at h
  refine calls_start 179 Tryz.func8 rfl rfl (Nat.le_of_ble_eq_true rfl) ?_
  refine wp_seq ?_
  refine wp_text [0] rfl ?_
  refine rv 0 rfl rfl rfl (q_assign (v := .bool (false)) rfl rfl) ?_
  refine ro_nil ?_
  refine wp_seq ?_
  refine wp_text [0, 1, 2, 3, 4, 5] rfl ?_
  refine ro_wp rfl (.free rfl) (wp_cl (d := (some 21)) rfl (q_call (k := 22) (l := [.float .f64 ((4576918229304087675 : Nat))]) rfl ent22 rfl) h ?_)
  intro r2 w1 h
  refine rv 20 rfl rfl rfl (q_move (v := (tTup2 tPtr (tInt .i64)).enc (r2)) rfl rfl) ?_
  refine rv 22 rfl rfl rfl (q_extract (vs := #[.pointer (r2.1), .int .i64 (r2.2)]) (v := .pointer (r2.1)) rfl rfl rfl) ?_
  refine rv 23 rfl rfl rfl (q_extract (vs := #[.pointer (r2.1), .int .i64 (r2.2)]) (v := .int .i64 (r2.2)) rfl rfl rfl) ?_
  refine rv 1 rfl rfl rfl (q_assign (v := .pointer (r2.1)) rfl rfl) ?_
  refine rv 2 rfl rfl rfl (q_assign (v := .int .i64 (r2.2)) rfl rfl) ?_
  refine ro_nil ?_
  refine wp_seq ?_
  refine wp_seq ?_
  refine wp_text [0, 1, 2, 3, 4, 5] rfl ?_
  refine rv 24 rfl rfl rfl (q_move (v := .int .i64 (r2.2)) rfl rfl) ?_
  refine rv 25 rfl rfl rfl (q_neq (a := r2.2) (b := (0 : Int)) rfl rfl rfl) ?_
  refine rv 26 rfl rfl rfl (q_move (v := .bool ((r2.2 != (0 : Int)))) rfl rfl) ?_
  refine ro_gval (g := (!(r2.2 != (0 : Int)))) (d := (some 27)) rfl (.no 2 26 true (r2.2 != (0 : Int)) rfl rfl rfl rfl) rfl (fun hg => q_move (v := .pointer (r2.1)) rfl rfl) ?_
  refine ro_gval (g := (!(r2.2 != (0 : Int)))) (d := (some 28)) rfl (.no 2 26 true (r2.2 != (0 : Int)) rfl rfl rfl rfl) rfl (fun hg => q_eqP0 (a := r2.1) rfl Tryz.underlying24 (gvb_yes hg) rfl) ?_
  refine rv 29 rfl rfl rfl (q_pickGF (a := (r2.2 != (0 : Int))) (c := r2.1.isNone) rfl rfl rfl rfl) ?_
  refine ro_nil ?_
  refine wp_if (b := ((r2.2 != (0 : Int)) || r2.1.isNone)) rfl h (fun hb56 h => ?_) (fun hb56 h => ?_)
  · refine wp_seq ?_
    refine wp_text [0] rfl ?_
    refine rv 0 rfl rfl rfl (q_assign (v := .bool (false)) rfl rfl) ?_
    refine ro_nil ?_
    refine wp_ret ?_
    exact ret_ok rfl (.cons (.tmp (v := .bool (false)) rfl) .nil) ⟨false, rfl, h⟩
  · refine wp_skip ?_
    refine wp_seq ?_
    refine wp_text [0, 1, 2] rfl ?_
    refine rv 30 rfl rfl rfl (q_move (v := .pointer (r2.1)) rfl rfl) ?_
    refine ro_wp rfl (.free rfl) (wp_cl (d := (some 31)) rfl (q_call (k := 23) (l := [.pointer (r2.1), .int .i64 ((1 : Int)), .int .i64 ((7 : Int)), .int .i64 ((1000 : Int))]) rfl ent23 rfl) h ?_)
    intro r4 w3 h
    refine rv 3 rfl rfl rfl (q_assign (v := .int .i64 (r4)) rfl rfl) ?_
    refine ro_nil ?_
    refine wp_seq ?_
    refine wp_text [0, 1, 2, 3] rfl ?_
    refine rv 32 rfl rfl rfl (q_move (v := .pointer (r2.1)) rfl rfl) ?_
    refine rv 33 rfl rfl rfl (q_build53_0_1_2_3 (v0 := (1 : Int)) (v1 := (7 : Int)) (v2 := (200 : Int)) (v3 := true) rfl rfl rfl rfl rfl) ?_
    refine ro_wp rfl (.free rfl) (wp_cl (d := (some 34)) rfl (q_call (k := 21) (l := [.pointer (r2.1), .int .i64 ((5 : Int)), T52.enc ((⟨(1 : Int), (7 : Int), (200 : Int), true⟩ : S52))]) rfl ent21 rfl) h ?_)
    intro r6 w5 h
    refine rv 4 rfl rfl rfl (q_assign (v := .int .i64 (r6)) rfl rfl) ?_
    refine ro_nil ?_
    refine wp_seq ?_
    refine wp_text [0, 1, 2, 3] rfl ?_
    refine rv 35 rfl rfl rfl (q_move (v := .pointer (r2.1)) rfl rfl) ?_
    refine rv 36 rfl rfl rfl (q_build53_0_1_2 (v0 := (2 : Int)) (v1 := (7 : Int)) (v2 := (1 : Int)) rfl rfl rfl rfl) ?_
    refine ro_wp rfl (.free rfl) (wp_cl (d := (some 37)) rfl (q_call (k := 21) (l := [.pointer (r2.1), .int .i64 ((6 : Int)), T52.enc ((⟨(2 : Int), (7 : Int), (1 : Int), false⟩ : S52))]) rfl ent21 rfl) h ?_)
    intro r8 w7 h
    refine rv 5 rfl rfl rfl (q_assign (v := .int .i64 (r8)) rfl rfl) ?_
    refine ro_nil ?_
    refine wp_seq ?_
    refine wp_text [0, 1, 2, 3, 4, 5] rfl ?_
    refine rv 38 rfl rfl rfl (q_move (v := .pointer (r2.1)) rfl rfl) ?_
    refine ro_wp rfl (.free rfl) (wp_cl (d := (some 39)) rfl (q_call (k := 19) (l := [.pointer (r2.1), .int .i64 ((5 : Int))]) rfl ent19 rfl) h ?_)
    intro r10 w9 h
    refine rv 40 rfl rfl rfl (q_move (v := .pointer (r2.1)) rfl rfl) ?_
    refine ro_wp rfl (.free rfl) (wp_cl (d := (some 41)) rfl (q_call (k := 19) (l := [.pointer (r2.1), .int .i64 ((4 : Int))]) rfl ent19 rfl) h ?_)
    intro r12 w11 h
    refine rv 6 rfl rfl rfl (q_assign (v := .int .i64 (r10)) rfl rfl) ?_
    refine rv 7 rfl rfl rfl (q_assign (v := .int .i64 (r12)) rfl rfl) ?_
    refine ro_nil ?_
    refine wp_seq ?_
    refine wp_text [0, 1, 2] rfl ?_
    refine rv 42 rfl rfl rfl (q_move (v := .pointer (r2.1)) rfl rfl) ?_
    refine ro_wp rfl (.free rfl) (wp_cl (d := (some 43)) rfl (q_call (k := 17) (l := [.pointer (r2.1)]) rfl ent17 rfl) h ?_)
    intro r14 w13 h
    refine rv 8 rfl rfl rfl (q_assign (v := tSlc.enc (r14)) rfl rfl) ?_
    refine ro_nil ?_
    refine wp_seq ?_
    refine wp_text [0, 1, 2, 3, 4, 5] rfl ?_
    refine rv 44 rfl rfl rfl (q_move (v := .pointer (r2.1)) rfl rfl) ?_
    refine ro_wp rfl (.free rfl) (wp_cl (d := (some 45)) rfl (q_call (k := 15) (l := [.pointer (r2.1), .int .i64 ((9 : Int)), .int .i64 ((1 : Int))]) rfl ent15 rfl) h ?_)
    intro r16 w15 h
    refine rv 46 rfl rfl rfl (q_move (v := .pointer (r2.1)) rfl rfl) ?_
    refine ro_wp rfl (.free rfl) (wp_cl (d := (some 47)) rfl (q_call (k := 19) (l := [.pointer (r2.1), .int .i64 ((9 : Int))]) rfl ent19 rfl) h ?_)
    intro r18 w17 h
    refine rv 9 rfl rfl rfl (q_assign (v := .int .i64 (r16)) rfl rfl) ?_
    refine rv 10 rfl rfl rfl (q_assign (v := .int .i64 (r18)) rfl rfl) ?_
    refine ro_nil ?_
    refine wp_seq ?_
    refine wp_text [0, 1, 2, 3, 4, 5, 6] rfl ?_
    refine rv 49 rfl rfl rfl (q_move (v := .pointer (r2.1)) rfl rfl) ?_
    refine ro_wp rfl (.free rfl) (wp_cl (d := (some 50)) rfl (q_call (k := 24) (l := [.pointer (r2.1), .int .i64 ((7 : Int)), .int .i64 ((8 : Int))]) rfl ent24 rfl) h ?_)
    intro r20 w19 h
    refine rv 48 rfl rfl rfl (q_move (v := (tTup2 (tInt .i64) (tInt .i64)).enc (r20)) rfl rfl) ?_
    refine rv 51 rfl rfl rfl (q_extract (vs := #[.int .i64 (r20.1), .int .i64 (r20.2)]) (v := .int .i64 (r20.1)) rfl rfl rfl) ?_
    refine rv 52 rfl rfl rfl (q_extract (vs := #[.int .i64 (r20.1), .int .i64 (r20.2)]) (v := .int .i64 (r20.2)) rfl rfl rfl) ?_
    refine rv 11 rfl rfl rfl (q_assign (v := .int .i64 (r20.1)) rfl rfl) ?_
    refine rv 12 rfl rfl rfl (q_assign (v := .int .i64 (r20.2)) rfl rfl) ?_
    refine ro_nil ?_
    refine wp_seq ?_
    refine wp_text [0, 1, 2, 3, 4, 5, 6] rfl ?_
    refine rv 54 rfl rfl rfl (q_move (v := .pointer (r2.1)) rfl rfl) ?_
    refine ro_wp rfl (.free rfl) (wp_cl (d := (some 55)) rfl (q_call (k := 10) (l := [.pointer (r2.1), .int .i64 ((9 : Int))]) rfl ent10 rfl) h ?_)
    intro r22 w21 h
    refine rv 53 rfl rfl rfl (q_move (v := (tTup2 tSlc (tInt .i64)).enc (r22)) rfl rfl) ?_
    refine rv 56 rfl rfl rfl (q_extract (vs := #[tSlc.enc (r22.1), .int .i64 (r22.2)]) (v := tSlc.enc (r22.1)) rfl rfl rfl) ?_
    refine rv 57 rfl rfl rfl (q_extract (vs := #[tSlc.enc (r22.1), .int .i64 (r22.2)]) (v := .int .i64 (r22.2)) rfl rfl rfl) ?_
    refine rv 13 rfl rfl rfl (q_assign (v := tSlc.enc (r22.1)) rfl rfl) ?_
    refine rv 14 rfl rfl rfl (q_assign (v := .int .i64 (r22.2)) rfl rfl) ?_
    refine ro_nil ?_
    refine wp_seq ?_
    refine wp_text [0, 1, 2] rfl ?_
    refine rv 58 rfl rfl rfl (q_move (v := .pointer (r2.1)) rfl rfl) ?_
    refine ro_wp rfl (.free rfl) (wp_cl (d := (some 59)) rfl (q_call (k := 16) (l := [.pointer (r2.1), .int .i64 ((1 : Int))]) rfl ent16 rfl) h ?_)
    intro r24 w23 h
    refine rv 15 rfl rfl rfl (q_assign (v := .int .i64 (r24)) rfl rfl) ?_
    refine ro_nil ?_
    refine wp_seq ?_
    refine wp_text [0, 1, 2] rfl ?_
    refine rv 60 rfl rfl rfl (q_move (v := .pointer (r2.1)) rfl rfl) ?_
    refine ro_wp rfl (.free rfl) (wp_cl (d := (some 61)) rfl (q_call (k := 16) (l := [.pointer (r2.1), .int .i64 ((3 : Int))]) rfl ent16 rfl) h ?_)
    intro r26 w25 h
    refine rv 16 rfl rfl rfl (q_assign (v := .int .i64 (r26)) rfl rfl) ?_
    refine ro_nil ?_
    refine wp_seq ?_
    refine wp_text [0, 1, 2, 3, 4, 5, 6] rfl ?_
    refine rv 63 rfl rfl rfl (q_move (v := .pointer (r2.1)) rfl rfl) ?_
    refine ro_wp rfl (.free rfl) (wp_cl (d := (some 64)) rfl (q_call (k := 14) (l := [.pointer (r2.1), .int .i64 ((1 : Int))]) rfl ent14 rfl) h ?_)
    intro r28 w27 h
    refine rv 62 rfl rfl rfl (q_move (v := (tTup2 (tInt .i64) (tInt .i64)).enc (r28)) rfl rfl) ?_
    refine rv 65 rfl rfl rfl (q_extract (vs := #[.int .i64 (r28.1), .int .i64 (r28.2)]) (v := .int .i64 (r28.1)) rfl rfl rfl) ?_
    refine rv 66 rfl rfl rfl (q_extract (vs := #[.int .i64 (r28.1), .int .i64 (r28.2)]) (v := .int .i64 (r28.2)) rfl rfl rfl) ?_
    refine rv 17 rfl rfl rfl (q_assign (v := .int .i64 (r28.1)) rfl rfl) ?_
    refine rv 18 rfl rfl rfl (q_assign (v := .int .i64 (r28.2)) rfl rfl) ?_
    refine ro_nil ?_
    refine wp_seq ?_
    refine wp_text [0, 1, 2] rfl ?_
    refine rv 67 rfl rfl rfl (q_move (v := .pointer (r2.1)) rfl rfl) ?_
    refine ro_wp rfl (.free rfl) (wp_cl (d := (some 68)) rfl (q_call (k := 25) (l := [.pointer (r2.1), .int .i64 ((9 : Int))]) rfl ent25 rfl) h ?_)
    intro r30 w29 h
    refine rv 19 rfl rfl rfl (q_assign (v := .int .i64 (r30)) rfl rfl) ?_
    refine ro_nil ?_
    refine wp_seq ?_
    refine wp_text [0, 1, 2, 3, 4, 5, 6, 7, 8, 9, 10, 11, 12, 13, 14, 15, 16, 17, 18, 19, 20, 21, 22, 23, 24, 25, 26, 27, 28, 29, 30, 31, 32, 33, 34, 35, 36, 37, 38, 39, 40, 41, 42, 43, 44, 45, 46, 47, 48, 49, 50, 51, 52, 53, 54, 55, 56, 57, 58, 59, 60, 61, 62, 63, 64, 65, 66, 67, 68, 69, 70, 71, 72, 73, 74, 75, 76, 77, 78, 79, 80, 81, 82, 83, 84, 85, 86, 87, 88, 89, 90, 91, 92, 93, 94, 95, 96, 97, 98, 99, 100, 101, 102, 103, 104, 105, 106, 107, 108, 109, 110] rfl ?_
    refine rv 69 rfl rfl rfl (q_move (v := .int .i64 (r4)) rfl rfl) ?_
    refine rv 70 rfl rfl rfl (q_eql (a := r4) (b := (0 : Int)) rfl rfl rfl) ?_
    refine rv 71 rfl rfl rfl (q_move (v := .bool ((r4 == (0 : Int)))) rfl rfl) ?_
    refine ro_gval (g := (r4 == (0 : Int))) (d := (some 72)) rfl (.yes 2 71 true (r4 == (0 : Int)) rfl rfl rfl rfl) rfl (fun hg => q_move (v := .int .i64 (r6)) rfl rfl) ?_
    refine ro_gval (g := (r4 == (0 : Int))) (d := (some 73)) rfl (.yes 2 71 true (r4 == (0 : Int)) rfl rfl rfl rfl) rfl (fun hg => q_eql (k := .i64) (a := r6) (b := (0 : Int)) rfl (gvb_yes hg) rfl) ?_
    refine rv 74 rfl rfl rfl (q_pickGT (a := (r4 == (0 : Int))) (b := (r6 == (0 : Int))) rfl rfl rfl rfl) ?_
    refine rv 75 rfl rfl rfl (q_move (v := .bool (((r4 == (0 : Int)) && (r6 == (0 : Int))))) rfl rfl) ?_
    refine ro_gval (g := ((r4 == (0 : Int)) && (r6 == (0 : Int)))) (d := (some 76)) rfl (.yes 6 75 true ((r4 == (0 : Int)) && (r6 == (0 : Int))) rfl rfl rfl rfl) rfl (fun hg => q_move (v := .int .i64 (r8)) rfl rfl) ?_
    refine ro_gval (g := ((r4 == (0 : Int)) && (r6 == (0 : Int)))) (d := (some 77)) rfl (.yes 6 75 true ((r4 == (0 : Int)) && (r6 == (0 : Int))) rfl rfl rfl rfl) rfl (fun hg => q_eql (k := .i64) (a := r8) (b := (160 : Int)) rfl (gvb_yes hg) rfl) ?_
    refine rv 78 rfl rfl rfl (q_pickGT (a := ((r4 == (0 : Int)) && (r6 == (0 : Int)))) (b := (r8 == (160 : Int))) rfl rfl rfl rfl) ?_
    refine rv 79 rfl rfl rfl (q_move (v := .bool ((((r4 == (0 : Int)) && (r6 == (0 : Int))) && (r8 == (160 : Int))))) rfl rfl) ?_
    refine ro_gval (g := (((r4 == (0 : Int)) && (r6 == (0 : Int))) && (r8 == (160 : Int)))) (d := (some 80)) rfl (.yes 10 79 true (((r4 == (0 : Int)) && (r6 == (0 : Int))) && (r8 == (160 : Int))) rfl rfl rfl rfl) rfl (fun hg => q_move (v := .int .i64 (r10)) rfl rfl) ?_
    refine ro_gval (g := (((r4 == (0 : Int)) && (r6 == (0 : Int))) && (r8 == (160 : Int)))) (d := (some 81)) rfl (.yes 10 79 true (((r4 == (0 : Int)) && (r6 == (0 : Int))) && (r8 == (160 : Int))) rfl rfl rfl rfl) rfl (fun hg => q_eql (k := .i64) (a := r10) (b := (160 : Int)) rfl (gvb_yes hg) rfl) ?_
    refine rv 82 rfl rfl rfl (q_pickGT (a := (((r4 == (0 : Int)) && (r6 == (0 : Int))) && (r8 == (160 : Int)))) (b := (r10 == (160 : Int))) rfl rfl rfl rfl) ?_
    refine rv 83 rfl rfl rfl (q_move (v := .bool (((((r4 == (0 : Int)) && (r6 == (0 : Int))) && (r8 == (160 : Int))) && (r10 == (160 : Int))))) rfl rfl) ?_
    refine ro_gval (g := ((((r4 == (0 : Int)) && (r6 == (0 : Int))) && (r8 == (160 : Int))) && (r10 == (160 : Int)))) (d := (some 84)) rfl (.yes 14 83 true ((((r4 == (0 : Int)) && (r6 == (0 : Int))) && (r8 == (160 : Int))) && (r10 == (160 : Int))) rfl rfl rfl rfl) rfl (fun hg => q_move (v := .int .i64 (r12)) rfl rfl) ?_
    refine ro_gval (g := ((((r4 == (0 : Int)) && (r6 == (0 : Int))) && (r8 == (160 : Int))) && (r10 == (160 : Int)))) (d := (some 85)) rfl (.yes 14 83 true ((((r4 == (0 : Int)) && (r6 == (0 : Int))) && (r8 == (160 : Int))) && (r10 == (160 : Int))) rfl rfl rfl rfl) rfl (fun hg => q_eql (k := .i64) (a := r12) (b := (0 : Int)) rfl (gvb_yes hg) rfl) ?_
    refine rv 86 rfl rfl rfl (q_pickGT (a := ((((r4 == (0 : Int)) && (r6 == (0 : Int))) && (r8 == (160 : Int))) && (r10 == (160 : Int)))) (b := (r12 == (0 : Int))) rfl rfl rfl rfl) ?_
    refine rv 87 rfl rfl rfl (q_move (v := .bool ((((((r4 == (0 : Int)) && (r6 == (0 : Int))) && (r8 == (160 : Int))) && (r10 == (160 : Int))) && (r12 == (0 : Int))))) rfl rfl) ?_
    refine ro_gval (g := (((((r4 == (0 : Int)) && (r6 == (0 : Int))) && (r8 == (160 : Int))) && (r10 == (160 : Int))) && (r12 == (0 : Int)))) (d := (some 88)) rfl (.yes 18 87 true (((((r4 == (0 : Int)) && (r6 == (0 : Int))) && (r8 == (160 : Int))) && (r10 == (160 : Int))) && (r12 == (0 : Int))) rfl rfl rfl rfl) rfl (fun hg => q_move (v := tSlc.enc (r14)) rfl rfl) ?_
    refine ro_gval (g := (((((r4 == (0 : Int)) && (r6 == (0 : Int))) && (r8 == (160 : Int))) && (r10 == (160 : Int))) && (r12 == (0 : Int)))) (d := (some 89)) rfl (.yes 18 87 true (((((r4 == (0 : Int)) && (r6 == (0 : Int))) && (r8 == (160 : Int))) && (r10 == (160 : Int))) && (r12 == (0 : Int))) rfl rfl rfl rfl) rfl (fun hg => q_len (s := r14) rfl Tryz.underlying50 (gvb_yes hg)) ?_
    refine ro_gval (g := (((((r4 == (0 : Int)) && (r6 == (0 : Int))) && (r8 == (160 : Int))) && (r10 == (160 : Int))) && (r12 == (0 : Int)))) (d := (some 90)) rfl (.yes 18 87 true (((((r4 == (0 : Int)) && (r6 == (0 : Int))) && (r8 == (160 : Int))) && (r10 == (160 : Int))) && (r12 == (0 : Int))) rfl rfl rfl rfl) rfl (fun hg => q_eql (k := .i64) (a := (r14.len : Int)) (b := (1 : Int)) rfl (gvb_yes hg) rfl) ?_
    refine rv 91 rfl rfl rfl (q_pickGT (a := (((((r4 == (0 : Int)) && (r6 == (0 : Int))) && (r8 == (160 : Int))) && (r10 == (160 : Int))) && (r12 == (0 : Int)))) (b := ((r14.len : Int) == (1 : Int))) rfl rfl rfl rfl) ?_
    refine rv 92 rfl rfl rfl (q_move (v := .bool (((((((r4 == (0 : Int)) && (r6 == (0 : Int))) && (r8 == (160 : Int))) && (r10 == (160 : Int))) && (r12 == (0 : Int))) && ((r14.len : Int) == (1 : Int))))) rfl rfl) ?_
    refine ro_gval (g := ((((((r4 == (0 : Int)) && (r6 == (0 : Int))) && (r8 == (160 : Int))) && (r10 == (160 : Int))) && (r12 == (0 : Int))) && ((r14.len : Int) == (1 : Int)))) (d := (some 93)) rfl (.yes 23 92 true ((((((r4 == (0 : Int)) && (r6 == (0 : Int))) && (r8 == (160 : Int))) && (r10 == (160 : Int))) && (r12 == (0 : Int))) && ((r14.len : Int) == (1 : Int))) rfl rfl rfl rfl) rfl (fun hg => q_move (v := tSlc.enc (r14)) rfl rfl) ?_
    obtain ⟨a31, ha31, h⟩ := h
    refine ro_gval (g := ((((((r4 == (0 : Int)) && (r6 == (0 : Int))) && (r8 == (160 : Int))) && (r10 == (160 : Int))) && (r12 == (0 : Int))) && ((r14.len : Int) == (1 : Int)))) (d := (some 94)) rfl (.yes 23 92 true ((((((r4 == (0 : Int)) && (r6 == (0 : Int))) && (r8 == (160 : Int))) && (r10 == (160 : Int))) && (r12 == (0 : Int))) && ((r14.len : Int) == (1 : Int))) rfl rfl rfl rfl) rfl (fun hg => q_indexAddr (s := r14) (k := .i64) (i := (0 : Int)) rfl Tryz.underlying50 ok55 (gvb_yes hg) rfl (ha31 hg)) ?_
    refine ro_gval (g := ((((((r4 == (0 : Int)) && (r6 == (0 : Int))) && (r8 == (160 : Int))) && (r10 == (160 : Int))) && (r12 == (0 : Int))) && ((r14.len : Int) == (1 : Int)))) (d := (some 95)) rfl (.yes 23 92 true ((((((r4 == (0 : Int)) && (r6 == (0 : Int))) && (r8 == (160 : Int))) && (r10 == (160 : Int))) && (r12 == (0 : Int))) && ((r14.len : Int) == (1 : Int))) rfl rfl rfl rfl) rfl (fun hg => q_fieldAddr (a := a31) (off := 5) rfl Tryz.underlying55 rfl rfl ok2 (by decide) (gvb_yes hg)) ?_
    obtain ⟨x32, hx32, h⟩ := h
    refine ro_gval (g := ((((((r4 == (0 : Int)) && (r6 == (0 : Int))) && (r8 == (160 : Int))) && (r10 == (160 : Int))) && (r12 == (0 : Int))) && ((r14.len : Int) == (1 : Int)))) (d := (some 96)) rfl (.yes 23 92 true ((((((r4 == (0 : Int)) && (r6 == (0 : Int))) && (r8 == (160 : Int))) && (r10 == (160 : Int))) && (r12 == (0 : Int))) && ((r14.len : Int) == (1 : Int))) rfl rfl rfl rfl) rfl (fun hg => q_load (T := (tInt .i64)) (u := x32) (a := (a31.add 5)) rfl ok2 (gvb_yes hg) (hx32 hg)) ?_
    refine ro_gval (g := ((((((r4 == (0 : Int)) && (r6 == (0 : Int))) && (r8 == (160 : Int))) && (r10 == (160 : Int))) && (r12 == (0 : Int))) && ((r14.len : Int) == (1 : Int)))) (d := (some 97)) rfl (.yes 23 92 true ((((((r4 == (0 : Int)) && (r6 == (0 : Int))) && (r8 == (160 : Int))) && (r10 == (160 : Int))) && (r12 == (0 : Int))) && ((r14.len : Int) == (1 : Int))) rfl rfl rfl rfl) rfl (fun hg => q_eql (k := .i64) (a := x32) (b := (2 : Int)) rfl (gvb_yes hg) rfl) ?_
    refine rv 98 rfl rfl rfl (q_pickGT (a := ((((((r4 == (0 : Int)) && (r6 == (0 : Int))) && (r8 == (160 : Int))) && (r10 == (160 : Int))) && (r12 == (0 : Int))) && ((r14.len : Int) == (1 : Int)))) (b := (x32 == (2 : Int))) rfl rfl rfl rfl) ?_
    refine rv 99 rfl rfl rfl (q_move (v := .bool ((((((((r4 == (0 : Int)) && (r6 == (0 : Int))) && (r8 == (160 : Int))) && (r10 == (160 : Int))) && (r12 == (0 : Int))) && ((r14.len : Int) == (1 : Int))) && (x32 == (2 : Int))))) rfl rfl) ?_
    refine ro_gval (g := (((((((r4 == (0 : Int)) && (r6 == (0 : Int))) && (r8 == (160 : Int))) && (r10 == (160 : Int))) && (r12 == (0 : Int))) && ((r14.len : Int) == (1 : Int))) && (x32 == (2 : Int)))) (d := (some 100)) rfl (.yes 30 99 true (((((((r4 == (0 : Int)) && (r6 == (0 : Int))) && (r8 == (160 : Int))) && (r10 == (160 : Int))) && (r12 == (0 : Int))) && ((r14.len : Int) == (1 : Int))) && (x32 == (2 : Int))) rfl rfl rfl rfl) rfl (fun hg => q_move (v := .int .i64 (r16)) rfl rfl) ?_
    refine ro_gval (g := (((((((r4 == (0 : Int)) && (r6 == (0 : Int))) && (r8 == (160 : Int))) && (r10 == (160 : Int))) && (r12 == (0 : Int))) && ((r14.len : Int) == (1 : Int))) && (x32 == (2 : Int)))) (d := (some 101)) rfl (.yes 30 99 true (((((((r4 == (0 : Int)) && (r6 == (0 : Int))) && (r8 == (160 : Int))) && (r10 == (160 : Int))) && (r12 == (0 : Int))) && ((r14.len : Int) == (1 : Int))) && (x32 == (2 : Int))) rfl rfl rfl rfl) rfl (fun hg => q_eql (k := .i64) (a := r16) (b := (0 : Int)) rfl (gvb_yes hg) rfl) ?_
    refine rv 102 rfl rfl rfl (q_pickGT (a := (((((((r4 == (0 : Int)) && (r6 == (0 : Int))) && (r8 == (160 : Int))) && (r10 == (160 : Int))) && (r12 == (0 : Int))) && ((r14.len : Int) == (1 : Int))) && (x32 == (2 : Int)))) (b := (r16 == (0 : Int))) rfl rfl rfl rfl) ?_
    refine rv 103 rfl rfl rfl (q_move (v := .bool (((((((((r4 == (0 : Int)) && (r6 == (0 : Int))) && (r8 == (160 : Int))) && (r10 == (160 : Int))) && (r12 == (0 : Int))) && ((r14.len : Int) == (1 : Int))) && (x32 == (2 : Int))) && (r16 == (0 : Int))))) rfl rfl) ?_
    refine ro_gval (g := ((((((((r4 == (0 : Int)) && (r6 == (0 : Int))) && (r8 == (160 : Int))) && (r10 == (160 : Int))) && (r12 == (0 : Int))) && ((r14.len : Int) == (1 : Int))) && (x32 == (2 : Int))) && (r16 == (0 : Int)))) (d := (some 104)) rfl (.yes 34 103 true ((((((((r4 == (0 : Int)) && (r6 == (0 : Int))) && (r8 == (160 : Int))) && (r10 == (160 : Int))) && (r12 == (0 : Int))) && ((r14.len : Int) == (1 : Int))) && (x32 == (2 : Int))) && (r16 == (0 : Int))) rfl rfl rfl rfl) rfl (fun hg => q_move (v := .int .i64 (r18)) rfl rfl) ?_
    refine ro_gval (g := ((((((((r4 == (0 : Int)) && (r6 == (0 : Int))) && (r8 == (160 : Int))) && (r10 == (160 : Int))) && (r12 == (0 : Int))) && ((r14.len : Int) == (1 : Int))) && (x32 == (2 : Int))) && (r16 == (0 : Int)))) (d := (some 105)) rfl (.yes 34 103 true ((((((((r4 == (0 : Int)) && (r6 == (0 : Int))) && (r8 == (160 : Int))) && (r10 == (160 : Int))) && (r12 == (0 : Int))) && ((r14.len : Int) == (1 : Int))) && (x32 == (2 : Int))) && (r16 == (0 : Int))) rfl rfl rfl rfl) rfl (fun hg => q_eql (k := .i64) (a := r18) (b := (0 : Int)) rfl (gvb_yes hg) rfl) ?_
    refine rv 106 rfl rfl rfl (q_pickGT (a := ((((((((r4 == (0 : Int)) && (r6 == (0 : Int))) && (r8 == (160 : Int))) && (r10 == (160 : Int))) && (r12 == (0 : Int))) && ((r14.len : Int) == (1 : Int))) && (x32 == (2 : Int))) && (r16 == (0 : Int)))) (b := (r18 == (0 : Int))) rfl rfl rfl rfl) ?_
    refine rv 107 rfl rfl rfl (q_move (v := .bool ((((((((((r4 == (0 : Int)) && (r6 == (0 : Int))) && (r8 == (160 : Int))) && (r10 == (160 : Int))) && (r12 == (0 : Int))) && ((r14.len : Int) == (1 : Int))) && (x32 == (2 : Int))) && (r16 == (0 : Int))) && (r18 == (0 : Int))))) rfl rfl) ?_
    refine ro_gval (g := (((((((((r4 == (0 : Int)) && (r6 == (0 : Int))) && (r8 == (160 : Int))) && (r10 == (160 : Int))) && (r12 == (0 : Int))) && ((r14.len : Int) == (1 : Int))) && (x32 == (2 : Int))) && (r16 == (0 : Int))) && (r18 == (0 : Int)))) (d := (some 108)) rfl (.yes 38 107 true (((((((((r4 == (0 : Int)) && (r6 == (0 : Int))) && (r8 == (160 : Int))) && (r10 == (160 : Int))) && (r12 == (0 : Int))) && ((r14.len : Int) == (1 : Int))) && (x32 == (2 : Int))) && (r16 == (0 : Int))) && (r18 == (0 : Int))) rfl rfl rfl rfl) rfl (fun hg => q_move (v := .int .i64 (r20.1)) rfl rfl) ?_
    refine ro_gval (g := (((((((((r4 == (0 : Int)) && (r6 == (0 : Int))) && (r8 == (160 : Int))) && (r10 == (160 : Int))) && (r12 == (0 : Int))) && ((r14.len : Int) == (1 : Int))) && (x32 == (2 : Int))) && (r16 == (0 : Int))) && (r18 == (0 : Int)))) (d := (some 109)) rfl (.yes 38 107 true (((((((((r4 == (0 : Int)) && (r6 == (0 : Int))) && (r8 == (160 : Int))) && (r10 == (160 : Int))) && (r12 == (0 : Int))) && ((r14.len : Int) == (1 : Int))) && (x32 == (2 : Int))) && (r16 == (0 : Int))) && (r18 == (0 : Int))) rfl rfl rfl rfl) rfl (fun hg => q_eql (k := .i64) (a := r20.1) (b := (1000 : Int)) rfl (gvb_yes hg) rfl) ?_
    refine rv 110 rfl rfl rfl (q_pickGT (a := (((((((((r4 == (0 : Int)) && (r6 == (0 : Int))) && (r8 == (160 : Int))) && (r10 == (160 : Int))) && (r12 == (0 : Int))) && ((r14.len : Int) == (1 : Int))) && (x32 == (2 : Int))) && (r16 == (0 : Int))) && (r18 == (0 : Int)))) (b := (r20.1 == (1000 : Int))) rfl rfl rfl rfl) ?_
    refine rv 111 rfl rfl rfl (q_move (v := .bool (((((((((((r4 == (0 : Int)) && (r6 == (0 : Int))) && (r8 == (160 : Int))) && (r10 == (160 : Int))) && (r12 == (0 : Int))) && ((r14.len : Int) == (1 : Int))) && (x32 == (2 : Int))) && (r16 == (0 : Int))) && (r18 == (0 : Int))) && (r20.1 == (1000 : Int))))) rfl rfl) ?_
    refine ro_gval (g := ((((((((((r4 == (0 : Int)) && (r6 == (0 : Int))) && (r8 == (160 : Int))) && (r10 == (160 : Int))) && (r12 == (0 : Int))) && ((r14.len : Int) == (1 : Int))) && (x32 == (2 : Int))) && (r16 == (0 : Int))) && (r18 == (0 : Int))) && (r20.1 == (1000 : Int)))) (d := (some 112)) rfl (.yes 42 111 true ((((((((((r4 == (0 : Int)) && (r6 == (0 : Int))) && (r8 == (160 : Int))) && (r10 == (160 : Int))) && (r12 == (0 : Int))) && ((r14.len : Int) == (1 : Int))) && (x32 == (2 : Int))) && (r16 == (0 : Int))) && (r18 == (0 : Int))) && (r20.1 == (1000 : Int))) rfl rfl rfl rfl) rfl (fun hg => q_move (v := .int .i64 (r20.2)) rfl rfl) ?_
    refine ro_gval (g := ((((((((((r4 == (0 : Int)) && (r6 == (0 : Int))) && (r8 == (160 : Int))) && (r10 == (160 : Int))) && (r12 == (0 : Int))) && ((r14.len : Int) == (1 : Int))) && (x32 == (2 : Int))) && (r16 == (0 : Int))) && (r18 == (0 : Int))) && (r20.1 == (1000 : Int)))) (d := (some 113)) rfl (.yes 42 111 true ((((((((((r4 == (0 : Int)) && (r6 == (0 : Int))) && (r8 == (160 : Int))) && (r10 == (160 : Int))) && (r12 == (0 : Int))) && ((r14.len : Int) == (1 : Int))) && (x32 == (2 : Int))) && (r16 == (0 : Int))) && (r18 == (0 : Int))) && (r20.1 == (1000 : Int))) rfl rfl rfl rfl) rfl (fun hg => q_eql (k := .i64) (a := r20.2) (b := (0 : Int)) rfl (gvb_yes hg) rfl) ?_
    refine rv 114 rfl rfl rfl (q_pickGT (a := ((((((((((r4 == (0 : Int)) && (r6 == (0 : Int))) && (r8 == (160 : Int))) && (r10 == (160 : Int))) && (r12 == (0 : Int))) && ((r14.len : Int) == (1 : Int))) && (x32 == (2 : Int))) && (r16 == (0 : Int))) && (r18 == (0 : Int))) && (r20.1 == (1000 : Int)))) (b := (r20.2 == (0 : Int))) rfl rfl rfl rfl) ?_
    refine rv 115 rfl rfl rfl (q_move (v := .bool ((((((((((((r4 == (0 : Int)) && (r6 == (0 : Int))) && (r8 == (160 : Int))) && (r10 == (160 : Int))) && (r12 == (0 : Int))) && ((r14.len : Int) == (1 : Int))) && (x32 == (2 : Int))) && (r16 == (0 : Int))) && (r18 == (0 : Int))) && (r20.1 == (1000 : Int))) && (r20.2 == (0 : Int))))) rfl rfl) ?_
    refine ro_gval (g := (((((((((((r4 == (0 : Int)) && (r6 == (0 : Int))) && (r8 == (160 : Int))) && (r10 == (160 : Int))) && (r12 == (0 : Int))) && ((r14.len : Int) == (1 : Int))) && (x32 == (2 : Int))) && (r16 == (0 : Int))) && (r18 == (0 : Int))) && (r20.1 == (1000 : Int))) && (r20.2 == (0 : Int)))) (d := (some 116)) rfl (.yes 46 115 true (((((((((((r4 == (0 : Int)) && (r6 == (0 : Int))) && (r8 == (160 : Int))) && (r10 == (160 : Int))) && (r12 == (0 : Int))) && ((r14.len : Int) == (1 : Int))) && (x32 == (2 : Int))) && (r16 == (0 : Int))) && (r18 == (0 : Int))) && (r20.1 == (1000 : Int))) && (r20.2 == (0 : Int))) rfl rfl rfl rfl) rfl (fun hg => q_move (v := .int .i64 (r22.2)) rfl rfl) ?_
    refine ro_gval (g := (((((((((((r4 == (0 : Int)) && (r6 == (0 : Int))) && (r8 == (160 : Int))) && (r10 == (160 : Int))) && (r12 == (0 : Int))) && ((r14.len : Int) == (1 : Int))) && (x32 == (2 : Int))) && (r16 == (0 : Int))) && (r18 == (0 : Int))) && (r20.1 == (1000 : Int))) && (r20.2 == (0 : Int)))) (d := (some 117)) rfl (.yes 46 115 true (((((((((((r4 == (0 : Int)) && (r6 == (0 : Int))) && (r8 == (160 : Int))) && (r10 == (160 : Int))) && (r12 == (0 : Int))) && ((r14.len : Int) == (1 : Int))) && (x32 == (2 : Int))) && (r16 == (0 : Int))) && (r18 == (0 : Int))) && (r20.1 == (1000 : Int))) && (r20.2 == (0 : Int))) rfl rfl rfl rfl) rfl (fun hg => q_eql (k := .i64) (a := r22.2) (b := (0 : Int)) rfl (gvb_yes hg) rfl) ?_
    refine rv 118 rfl rfl rfl (q_pickGT (a := (((((((((((r4 == (0 : Int)) && (r6 == (0 : Int))) && (r8 == (160 : Int))) && (r10 == (160 : Int))) && (r12 == (0 : Int))) && ((r14.len : Int) == (1 : Int))) && (x32 == (2 : Int))) && (r16 == (0 : Int))) && (r18 == (0 : Int))) && (r20.1 == (1000 : Int))) && (r20.2 == (0 : Int)))) (b := (r22.2 == (0 : Int))) rfl rfl rfl rfl) ?_
    refine rv 119 rfl rfl rfl (q_move (v := .bool (((((((((((((r4 == (0 : Int)) && (r6 == (0 : Int))) && (r8 == (160 : Int))) && (r10 == (160 : Int))) && (r12 == (0 : Int))) && ((r14.len : Int) == (1 : Int))) && (x32 == (2 : Int))) && (r16 == (0 : Int))) && (r18 == (0 : Int))) && (r20.1 == (1000 : Int))) && (r20.2 == (0 : Int))) && (r22.2 == (0 : Int))))) rfl rfl) ?_
    refine ro_gval (g := ((((((((((((r4 == (0 : Int)) && (r6 == (0 : Int))) && (r8 == (160 : Int))) && (r10 == (160 : Int))) && (r12 == (0 : Int))) && ((r14.len : Int) == (1 : Int))) && (x32 == (2 : Int))) && (r16 == (0 : Int))) && (r18 == (0 : Int))) && (r20.1 == (1000 : Int))) && (r20.2 == (0 : Int))) && (r22.2 == (0 : Int)))) (d := (some 120)) rfl (.yes 50 119 true ((((((((((((r4 == (0 : Int)) && (r6 == (0 : Int))) && (r8 == (160 : Int))) && (r10 == (160 : Int))) && (r12 == (0 : Int))) && ((r14.len : Int) == (1 : Int))) && (x32 == (2 : Int))) && (r16 == (0 : Int))) && (r18 == (0 : Int))) && (r20.1 == (1000 : Int))) && (r20.2 == (0 : Int))) && (r22.2 == (0 : Int))) rfl rfl rfl rfl) rfl (fun hg => q_move (v := tSlc.enc (r22.1)) rfl rfl) ?_
    refine ro_gval (g := ((((((((((((r4 == (0 : Int)) && (r6 == (0 : Int))) && (r8 == (160 : Int))) && (r10 == (160 : Int))) && (r12 == (0 : Int))) && ((r14.len : Int) == (1 : Int))) && (x32 == (2 : Int))) && (r16 == (0 : Int))) && (r18 == (0 : Int))) && (r20.1 == (1000 : Int))) && (r20.2 == (0 : Int))) && (r22.2 == (0 : Int)))) (d := (some 121)) rfl (.yes 50 119 true ((((((((((((r4 == (0 : Int)) && (r6 == (0 : Int))) && (r8 == (160 : Int))) && (r10 == (160 : Int))) && (r12 == (0 : Int))) && ((r14.len : Int) == (1 : Int))) && (x32 == (2 : Int))) && (r16 == (0 : Int))) && (r18 == (0 : Int))) && (r20.1 == (1000 : Int))) && (r20.2 == (0 : Int))) && (r22.2 == (0 : Int))) rfl rfl rfl rfl) rfl (fun hg => q_len (s := r22.1) rfl Tryz.underlying36 (gvb_yes hg)) ?_
    refine ro_gval (g := ((((((((((((r4 == (0 : Int)) && (r6 == (0 : Int))) && (r8 == (160 : Int))) && (r10 == (160 : Int))) && (r12 == (0 : Int))) && ((r14.len : Int) == (1 : Int))) && (x32 == (2 : Int))) && (r16 == (0 : Int))) && (r18 == (0 : Int))) && (r20.1 == (1000 : Int))) && (r20.2 == (0 : Int))) && (r22.2 == (0 : Int)))) (d := (some 122)) rfl (.yes 50 119 true ((((((((((((r4 == (0 : Int)) && (r6 == (0 : Int))) && (r8 == (160 : Int))) && (r10 == (160 : Int))) && (r12 == (0 : Int))) && ((r14.len : Int) == (1 : Int))) && (x32 == (2 : Int))) && (r16 == (0 : Int))) && (r18 == (0 : Int))) && (r20.1 == (1000 : Int))) && (r20.2 == (0 : Int))) && (r22.2 == (0 : Int))) rfl rfl rfl rfl) rfl (fun hg => q_eql (k := .i64) (a := (r22.1.len : Int)) (b := (2 : Int)) rfl (gvb_yes hg) rfl) ?_
    refine rv 123 rfl rfl rfl (q_pickGT (a := ((((((((((((r4 == (0 : Int)) && (r6 == (0 : Int))) && (r8 == (160 : Int))) && (r10 == (160 : Int))) && (r12 == (0 : Int))) && ((r14.len : Int) == (1 : Int))) && (x32 == (2 : Int))) && (r16 == (0 : Int))) && (r18 == (0 : Int))) && (r20.1 == (1000 : Int))) && (r20.2 == (0 : Int))) && (r22.2 == (0 : Int)))) (b := ((r22.1.len : Int) == (2 : Int))) rfl rfl rfl rfl) ?_
    refine rv 124 rfl rfl rfl (q_move (v := .bool ((((((((((((((r4 == (0 : Int)) && (r6 == (0 : Int))) && (r8 == (160 : Int))) && (r10 == (160 : Int))) && (r12 == (0 : Int))) && ((r14.len : Int) == (1 : Int))) && (x32 == (2 : Int))) && (r16 == (0 : Int))) && (r18 == (0 : Int))) && (r20.1 == (1000 : Int))) && (r20.2 == (0 : Int))) && (r22.2 == (0 : Int))) && ((r22.1.len : Int) == (2 : Int))))) rfl rfl) ?_
    refine ro_gval (g := (((((((((((((r4 == (0 : Int)) && (r6 == (0 : Int))) && (r8 == (160 : Int))) && (r10 == (160 : Int))) && (r12 == (0 : Int))) && ((r14.len : Int) == (1 : Int))) && (x32 == (2 : Int))) && (r16 == (0 : Int))) && (r18 == (0 : Int))) && (r20.1 == (1000 : Int))) && (r20.2 == (0 : Int))) && (r22.2 == (0 : Int))) && ((r22.1.len : Int) == (2 : Int)))) (d := (some 125)) rfl (.yes 55 124 true (((((((((((((r4 == (0 : Int)) && (r6 == (0 : Int))) && (r8 == (160 : Int))) && (r10 == (160 : Int))) && (r12 == (0 : Int))) && ((r14.len : Int) == (1 : Int))) && (x32 == (2 : Int))) && (r16 == (0 : Int))) && (r18 == (0 : Int))) && (r20.1 == (1000 : Int))) && (r20.2 == (0 : Int))) && (r22.2 == (0 : Int))) && ((r22.1.len : Int) == (2 : Int))) rfl rfl rfl rfl) rfl (fun hg => q_move (v := tSlc.enc (r22.1)) rfl rfl) ?_
    obtain ⟨a33, ha33, h⟩ := h
    refine ro_gval (g := (((((((((((((r4 == (0 : Int)) && (r6 == (0 : Int))) && (r8 == (160 : Int))) && (r10 == (160 : Int))) && (r12 == (0 : Int))) && ((r14.len : Int) == (1 : Int))) && (x32 == (2 : Int))) && (r16 == (0 : Int))) && (r18 == (0 : Int))) && (r20.1 == (1000 : Int))) && (r20.2 == (0 : Int))) && (r22.2 == (0 : Int))) && ((r22.1.len : Int) == (2 : Int)))) (d := (some 126)) rfl (.yes 55 124 true (((((((((((((r4 == (0 : Int)) && (r6 == (0 : Int))) && (r8 == (160 : Int))) && (r10 == (160 : Int))) && (r12 == (0 : Int))) && ((r14.len : Int) == (1 : Int))) && (x32 == (2 : Int))) && (r16 == (0 : Int))) && (r18 == (0 : Int))) && (r20.1 == (1000 : Int))) && (r20.2 == (0 : Int))) && (r22.2 == (0 : Int))) && ((r22.1.len : Int) == (2 : Int))) rfl rfl rfl rfl) rfl (fun hg => q_indexAddr (s := r22.1) (k := .i64) (i := (0 : Int)) rfl Tryz.underlying36 ok63 (gvb_yes hg) rfl (ha33 hg)) ?_
    refine ro_gval (g := (((((((((((((r4 == (0 : Int)) && (r6 == (0 : Int))) && (r8 == (160 : Int))) && (r10 == (160 : Int))) && (r12 == (0 : Int))) && ((r14.len : Int) == (1 : Int))) && (x32 == (2 : Int))) && (r16 == (0 : Int))) && (r18 == (0 : Int))) && (r20.1 == (1000 : Int))) && (r20.2 == (0 : Int))) && (r22.2 == (0 : Int))) && ((r22.1.len : Int) == (2 : Int)))) (d := (some 127)) rfl (.yes 55 124 true (((((((((((((r4 == (0 : Int)) && (r6 == (0 : Int))) && (r8 == (160 : Int))) && (r10 == (160 : Int))) && (r12 == (0 : Int))) && ((r14.len : Int) == (1 : Int))) && (x32 == (2 : Int))) && (r16 == (0 : Int))) && (r18 == (0 : Int))) && (r20.1 == (1000 : Int))) && (r20.2 == (0 : Int))) && (r22.2 == (0 : Int))) && ((r22.1.len : Int) == (2 : Int))) rfl rfl rfl rfl) rfl (fun hg => q_fieldAddr (a := a33) (off := 1) rfl Tryz.underlying63 rfl rfl ok2 (by decide) (gvb_yes hg)) ?_
    obtain ⟨x34, hx34, h⟩ := h
    refine ro_gval (g := (((((((((((((r4 == (0 : Int)) && (r6 == (0 : Int))) && (r8 == (160 : Int))) && (r10 == (160 : Int))) && (r12 == (0 : Int))) && ((r14.len : Int) == (1 : Int))) && (x32 == (2 : Int))) && (r16 == (0 : Int))) && (r18 == (0 : Int))) && (r20.1 == (1000 : Int))) && (r20.2 == (0 : Int))) && (r22.2 == (0 : Int))) && ((r22.1.len : Int) == (2 : Int)))) (d := (some 128)) rfl (.yes 55 124 true (((((((((((((r4 == (0 : Int)) && (r6 == (0 : Int))) && (r8 == (160 : Int))) && (r10 == (160 : Int))) && (r12 == (0 : Int))) && ((r14.len : Int) == (1 : Int))) && (x32 == (2 : Int))) && (r16 == (0 : Int))) && (r18 == (0 : Int))) && (r20.1 == (1000 : Int))) && (r20.2 == (0 : Int))) && (r22.2 == (0 : Int))) && ((r22.1.len : Int) == (2 : Int))) rfl rfl rfl rfl) rfl (fun hg => q_load (T := (tInt .i64)) (u := x34) (a := (a33.add 1)) rfl ok2 (gvb_yes hg) (hx34 hg)) ?_
    refine ro_gval (g := (((((((((((((r4 == (0 : Int)) && (r6 == (0 : Int))) && (r8 == (160 : Int))) && (r10 == (160 : Int))) && (r12 == (0 : Int))) && ((r14.len : Int) == (1 : Int))) && (x32 == (2 : Int))) && (r16 == (0 : Int))) && (r18 == (0 : Int))) && (r20.1 == (1000 : Int))) && (r20.2 == (0 : Int))) && (r22.2 == (0 : Int))) && ((r22.1.len : Int) == (2 : Int)))) (d := (some 129)) rfl (.yes 55 124 true (((((((((((((r4 == (0 : Int)) && (r6 == (0 : Int))) && (r8 == (160 : Int))) && (r10 == (160 : Int))) && (r12 == (0 : Int))) && ((r14.len : Int) == (1 : Int))) && (x32 == (2 : Int))) && (r16 == (0 : Int))) && (r18 == (0 : Int))) && (r20.1 == (1000 : Int))) && (r20.2 == (0 : Int))) && (r22.2 == (0 : Int))) && ((r22.1.len : Int) == (2 : Int))) rfl rfl rfl rfl) rfl (fun hg => q_eql (k := .i64) (a := x34) (b := (798 : Int)) rfl (gvb_yes hg) rfl) ?_
    refine rv 130 rfl rfl rfl (q_pickGT (a := (((((((((((((r4 == (0 : Int)) && (r6 == (0 : Int))) && (r8 == (160 : Int))) && (r10 == (160 : Int))) && (r12 == (0 : Int))) && ((r14.len : Int) == (1 : Int))) && (x32 == (2 : Int))) && (r16 == (0 : Int))) && (r18 == (0 : Int))) && (r20.1 == (1000 : Int))) && (r20.2 == (0 : Int))) && (r22.2 == (0 : Int))) && ((r22.1.len : Int) == (2 : Int)))) (b := (x34 == (798 : Int))) rfl rfl rfl rfl) ?_
    refine rv 131 rfl rfl rfl (q_move (v := .bool (((((((((((((((r4 == (0 : Int)) && (r6 == (0 : Int))) && (r8 == (160 : Int))) && (r10 == (160 : Int))) && (r12 == (0 : Int))) && ((r14.len : Int) == (1 : Int))) && (x32 == (2 : Int))) && (r16 == (0 : Int))) && (r18 == (0 : Int))) && (r20.1 == (1000 : Int))) && (r20.2 == (0 : Int))) && (r22.2 == (0 : Int))) && ((r22.1.len : Int) == (2 : Int))) && (x34 == (798 : Int))))) rfl rfl) ?_
    refine ro_gval (g := ((((((((((((((r4 == (0 : Int)) && (r6 == (0 : Int))) && (r8 == (160 : Int))) && (r10 == (160 : Int))) && (r12 == (0 : Int))) && ((r14.len : Int) == (1 : Int))) && (x32 == (2 : Int))) && (r16 == (0 : Int))) && (r18 == (0 : Int))) && (r20.1 == (1000 : Int))) && (r20.2 == (0 : Int))) && (r22.2 == (0 : Int))) && ((r22.1.len : Int) == (2 : Int))) && (x34 == (798 : Int)))) (d := (some 132)) rfl (.yes 62 131 true ((((((((((((((r4 == (0 : Int)) && (r6 == (0 : Int))) && (r8 == (160 : Int))) && (r10 == (160 : Int))) && (r12 == (0 : Int))) && ((r14.len : Int) == (1 : Int))) && (x32 == (2 : Int))) && (r16 == (0 : Int))) && (r18 == (0 : Int))) && (r20.1 == (1000 : Int))) && (r20.2 == (0 : Int))) && (r22.2 == (0 : Int))) && ((r22.1.len : Int) == (2 : Int))) && (x34 == (798 : Int))) rfl rfl rfl rfl) rfl (fun hg => q_move (v := tSlc.enc (r22.1)) rfl rfl) ?_
    obtain ⟨a35, ha35, h⟩ := h
    refine ro_gval (g := ((((((((((((((r4 == (0 : Int)) && (r6 == (0 : Int))) && (r8 == (160 : Int))) && (r10 == (160 : Int))) && (r12 == (0 : Int))) && ((r14.len : Int) == (1 : Int))) && (x32 == (2 : Int))) && (r16 == (0 : Int))) && (r18 == (0 : Int))) && (r20.1 == (1000 : Int))) && (r20.2 == (0 : Int))) && (r22.2 == (0 : Int))) && ((r22.1.len : Int) == (2 : Int))) && (x34 == (798 : Int)))) (d := (some 133)) rfl (.yes 62 131 true ((((((((((((((r4 == (0 : Int)) && (r6 == (0 : Int))) && (r8 == (160 : Int))) && (r10 == (160 : Int))) && (r12 == (0 : Int))) && ((r14.len : Int) == (1 : Int))) && (x32 == (2 : Int))) && (r16 == (0 : Int))) && (r18 == (0 : Int))) && (r20.1 == (1000 : Int))) && (r20.2 == (0 : Int))) && (r22.2 == (0 : Int))) && ((r22.1.len : Int) == (2 : Int))) && (x34 == (798 : Int))) rfl rfl rfl rfl) rfl (fun hg => q_indexAddr (s := r22.1) (k := .i64) (i := (1 : Int)) rfl Tryz.underlying36 ok63 (gvb_yes hg) rfl (ha35 hg)) ?_
    refine ro_gval (g := ((((((((((((((r4 == (0 : Int)) && (r6 == (0 : Int))) && (r8 == (160 : Int))) && (r10 == (160 : Int))) && (r12 == (0 : Int))) && ((r14.len : Int) == (1 : Int))) && (x32 == (2 : Int))) && (r16 == (0 : Int))) && (r18 == (0 : Int))) && (r20.1 == (1000 : Int))) && (r20.2 == (0 : Int))) && (r22.2 == (0 : Int))) && ((r22.1.len : Int) == (2 : Int))) && (x34 == (798 : Int)))) (d := (some 134)) rfl (.yes 62 131 true ((((((((((((((r4 == (0 : Int)) && (r6 == (0 : Int))) && (r8 == (160 : Int))) && (r10 == (160 : Int))) && (r12 == (0 : Int))) && ((r14.len : Int) == (1 : Int))) && (x32 == (2 : Int))) && (r16 == (0 : Int))) && (r18 == (0 : Int))) && (r20.1 == (1000 : Int))) && (r20.2 == (0 : Int))) && (r22.2 == (0 : Int))) && ((r22.1.len : Int) == (2 : Int))) && (x34 == (798 : Int))) rfl rfl rfl rfl) rfl (fun hg => q_fieldAddr (a := a35) (off := 0) rfl Tryz.underlying63 rfl rfl ok3 (by decide) (gvb_yes hg)) ?_
    obtain ⟨x36, hx36, h⟩ := h
    refine ro_gval (g := ((((((((((((((r4 == (0 : Int)) && (r6 == (0 : Int))) && (r8 == (160 : Int))) && (r10 == (160 : Int))) && (r12 == (0 : Int))) && ((r14.len : Int) == (1 : Int))) && (x32 == (2 : Int))) && (r16 == (0 : Int))) && (r18 == (0 : Int))) && (r20.1 == (1000 : Int))) && (r20.2 == (0 : Int))) && (r22.2 == (0 : Int))) && ((r22.1.len : Int) == (2 : Int))) && (x34 == (798 : Int)))) (d := (some 135)) rfl (.yes 62 131 true ((((((((((((((r4 == (0 : Int)) && (r6 == (0 : Int))) && (r8 == (160 : Int))) && (r10 == (160 : Int))) && (r12 == (0 : Int))) && ((r14.len : Int) == (1 : Int))) && (x32 == (2 : Int))) && (r16 == (0 : Int))) && (r18 == (0 : Int))) && (r20.1 == (1000 : Int))) && (r20.2 == (0 : Int))) && (r22.2 == (0 : Int))) && ((r22.1.len : Int) == (2 : Int))) && (x34 == (798 : Int))) rfl rfl rfl rfl) rfl (fun hg => q_load (T := (tInt .i64)) (u := x36) (a := (a35.add 0)) rfl ok3 (gvb_yes hg) (hx36 hg)) ?_
    refine ro_gval (g := ((((((((((((((r4 == (0 : Int)) && (r6 == (0 : Int))) && (r8 == (160 : Int))) && (r10 == (160 : Int))) && (r12 == (0 : Int))) && ((r14.len : Int) == (1 : Int))) && (x32 == (2 : Int))) && (r16 == (0 : Int))) && (r18 == (0 : Int))) && (r20.1 == (1000 : Int))) && (r20.2 == (0 : Int))) && (r22.2 == (0 : Int))) && ((r22.1.len : Int) == (2 : Int))) && (x34 == (798 : Int)))) (d := (some 136)) rfl (.yes 62 131 true ((((((((((((((r4 == (0 : Int)) && (r6 == (0 : Int))) && (r8 == (160 : Int))) && (r10 == (160 : Int))) && (r12 == (0 : Int))) && ((r14.len : Int) == (1 : Int))) && (x32 == (2 : Int))) && (r16 == (0 : Int))) && (r18 == (0 : Int))) && (r20.1 == (1000 : Int))) && (r20.2 == (0 : Int))) && (r22.2 == (0 : Int))) && ((r22.1.len : Int) == (2 : Int))) && (x34 == (798 : Int))) rfl rfl rfl rfl) rfl (fun hg => q_eql (k := .i64) (a := x36) (b := (4103 : Int)) rfl (gvb_yes hg) rfl) ?_
    refine rv 137 rfl rfl rfl (q_pickGT (a := ((((((((((((((r4 == (0 : Int)) && (r6 == (0 : Int))) && (r8 == (160 : Int))) && (r10 == (160 : Int))) && (r12 == (0 : Int))) && ((r14.len : Int) == (1 : Int))) && (x32 == (2 : Int))) && (r16 == (0 : Int))) && (r18 == (0 : Int))) && (r20.1 == (1000 : Int))) && (r20.2 == (0 : Int))) && (r22.2 == (0 : Int))) && ((r22.1.len : Int) == (2 : Int))) && (x34 == (798 : Int)))) (b := (x36 == (4103 : Int))) rfl rfl rfl rfl) ?_
    refine rv 138 rfl rfl rfl (q_move (v := .bool ((((((((((((((((r4 == (0 : Int)) && (r6 == (0 : Int))) && (r8 == (160 : Int))) && (r10 == (160 : Int))) && (r12 == (0 : Int))) && ((r14.len : Int) == (1 : Int))) && (x32 == (2 : Int))) && (r16 == (0 : Int))) && (r18 == (0 : Int))) && (r20.1 == (1000 : Int))) && (r20.2 == (0 : Int))) && (r22.2 == (0 : Int))) && ((r22.1.len : Int) == (2 : Int))) && (x34 == (798 : Int))) && (x36 == (4103 : Int))))) rfl rfl) ?_
    refine ro_gval (g := (((((((((((((((r4 == (0 : Int)) && (r6 == (0 : Int))) && (r8 == (160 : Int))) && (r10 == (160 : Int))) && (r12 == (0 : Int))) && ((r14.len : Int) == (1 : Int))) && (x32 == (2 : Int))) && (r16 == (0 : Int))) && (r18 == (0 : Int))) && (r20.1 == (1000 : Int))) && (r20.2 == (0 : Int))) && (r22.2 == (0 : Int))) && ((r22.1.len : Int) == (2 : Int))) && (x34 == (798 : Int))) && (x36 == (4103 : Int)))) (d := (some 139)) rfl (.yes 69 138 true (((((((((((((((r4 == (0 : Int)) && (r6 == (0 : Int))) && (r8 == (160 : Int))) && (r10 == (160 : Int))) && (r12 == (0 : Int))) && ((r14.len : Int) == (1 : Int))) && (x32 == (2 : Int))) && (r16 == (0 : Int))) && (r18 == (0 : Int))) && (r20.1 == (1000 : Int))) && (r20.2 == (0 : Int))) && (r22.2 == (0 : Int))) && ((r22.1.len : Int) == (2 : Int))) && (x34 == (798 : Int))) && (x36 == (4103 : Int))) rfl rfl rfl rfl) rfl (fun hg => q_move (v := .int .i64 (r24)) rfl rfl) ?_
    refine ro_gval (g := (((((((((((((((r4 == (0 : Int)) && (r6 == (0 : Int))) && (r8 == (160 : Int))) && (r10 == (160 : Int))) && (r12 == (0 : Int))) && ((r14.len : Int) == (1 : Int))) && (x32 == (2 : Int))) && (r16 == (0 : Int))) && (r18 == (0 : Int))) && (r20.1 == (1000 : Int))) && (r20.2 == (0 : Int))) && (r22.2 == (0 : Int))) && ((r22.1.len : Int) == (2 : Int))) && (x34 == (798 : Int))) && (x36 == (4103 : Int)))) (d := (some 140)) rfl (.yes 69 138 true (((((((((((((((r4 == (0 : Int)) && (r6 == (0 : Int))) && (r8 == (160 : Int))) && (r10 == (160 : Int))) && (r12 == (0 : Int))) && ((r14.len : Int) == (1 : Int))) && (x32 == (2 : Int))) && (r16 == (0 : Int))) && (r18 == (0 : Int))) && (r20.1 == (1000 : Int))) && (r20.2 == (0 : Int))) && (r22.2 == (0 : Int))) && ((r22.1.len : Int) == (2 : Int))) && (x34 == (798 : Int))) && (x36 == (4103 : Int))) rfl rfl rfl rfl) rfl (fun hg => q_eql (k := .i64) (a := r24) (b := (157 : Int)) rfl (gvb_yes hg) rfl) ?_
    refine rv 141 rfl rfl rfl (q_pickGT (a := (((((((((((((((r4 == (0 : Int)) && (r6 == (0 : Int))) && (r8 == (160 : Int))) && (r10 == (160 : Int))) && (r12 == (0 : Int))) && ((r14.len : Int) == (1 : Int))) && (x32 == (2 : Int))) && (r16 == (0 : Int))) && (r18 == (0 : Int))) && (r20.1 == (1000 : Int))) && (r20.2 == (0 : Int))) && (r22.2 == (0 : Int))) && ((r22.1.len : Int) == (2 : Int))) && (x34 == (798 : Int))) && (x36 == (4103 : Int)))) (b := (r24 == (157 : Int))) rfl rfl rfl rfl) ?_
    refine rv 142 rfl rfl rfl (q_move (v := .bool (((((((((((((((((r4 == (0 : Int)) && (r6 == (0 : Int))) && (r8 == (160 : Int))) && (r10 == (160 : Int))) && (r12 == (0 : Int))) && ((r14.len : Int) == (1 : Int))) && (x32 == (2 : Int))) && (r16 == (0 : Int))) && (r18 == (0 : Int))) && (r20.1 == (1000 : Int))) && (r20.2 == (0 : Int))) && (r22.2 == (0 : Int))) && ((r22.1.len : Int) == (2 : Int))) && (x34 == (798 : Int))) && (x36 == (4103 : Int))) && (r24 == (157 : Int))))) rfl rfl) ?_
    refine ro_gval (g := ((((((((((((((((r4 == (0 : Int)) && (r6 == (0 : Int))) && (r8 == (160 : Int))) && (r10 == (160 : Int))) && (r12 == (0 : Int))) && ((r14.len : Int) == (1 : Int))) && (x32 == (2 : Int))) && (r16 == (0 : Int))) && (r18 == (0 : Int))) && (r20.1 == (1000 : Int))) && (r20.2 == (0 : Int))) && (r22.2 == (0 : Int))) && ((r22.1.len : Int) == (2 : Int))) && (x34 == (798 : Int))) && (x36 == (4103 : Int))) && (r24 == (157 : Int)))) (d := (some 143)) rfl (.yes 73 142 true ((((((((((((((((r4 == (0 : Int)) && (r6 == (0 : Int))) && (r8 == (160 : Int))) && (r10 == (160 : Int))) && (r12 == (0 : Int))) && ((r14.len : Int) == (1 : Int))) && (x32 == (2 : Int))) && (r16 == (0 : Int))) && (r18 == (0 : Int))) && (r20.1 == (1000 : Int))) && (r20.2 == (0 : Int))) && (r22.2 == (0 : Int))) && ((r22.1.len : Int) == (2 : Int))) && (x34 == (798 : Int))) && (x36 == (4103 : Int))) && (r24 == (157 : Int))) rfl rfl rfl rfl) rfl (fun hg => q_move (v := .int .i64 (r26)) rfl rfl) ?_
    refine ro_gval (g := ((((((((((((((((r4 == (0 : Int)) && (r6 == (0 : Int))) && (r8 == (160 : Int))) && (r10 == (160 : Int))) && (r12 == (0 : Int))) && ((r14.len : Int) == (1 : Int))) && (x32 == (2 : Int))) && (r16 == (0 : Int))) && (r18 == (0 : Int))) && (r20.1 == (1000 : Int))) && (r20.2 == (0 : Int))) && (r22.2 == (0 : Int))) && ((r22.1.len : Int) == (2 : Int))) && (x34 == (798 : Int))) && (x36 == (4103 : Int))) && (r24 == (157 : Int)))) (d := (some 144)) rfl (.yes 73 142 true ((((((((((((((((r4 == (0 : Int)) && (r6 == (0 : Int))) && (r8 == (160 : Int))) && (r10 == (160 : Int))) && (r12 == (0 : Int))) && ((r14.len : Int) == (1 : Int))) && (x32 == (2 : Int))) && (r16 == (0 : Int))) && (r18 == (0 : Int))) && (r20.1 == (1000 : Int))) && (r20.2 == (0 : Int))) && (r22.2 == (0 : Int))) && ((r22.1.len : Int) == (2 : Int))) && (x34 == (798 : Int))) && (x36 == (4103 : Int))) && (r24 == (157 : Int))) rfl rfl rfl rfl) rfl (fun hg => q_eql (k := .i64) (a := r26) (b := (0 : Int)) rfl (gvb_yes hg) rfl) ?_
    refine rv 145 rfl rfl rfl (q_pickGT (a := ((((((((((((((((r4 == (0 : Int)) && (r6 == (0 : Int))) && (r8 == (160 : Int))) && (r10 == (160 : Int))) && (r12 == (0 : Int))) && ((r14.len : Int) == (1 : Int))) && (x32 == (2 : Int))) && (r16 == (0 : Int))) && (r18 == (0 : Int))) && (r20.1 == (1000 : Int))) && (r20.2 == (0 : Int))) && (r22.2 == (0 : Int))) && ((r22.1.len : Int) == (2 : Int))) && (x34 == (798 : Int))) && (x36 == (4103 : Int))) && (r24 == (157 : Int)))) (b := (r26 == (0 : Int))) rfl rfl rfl rfl) ?_
    refine rv 146 rfl rfl rfl (q_move (v := .bool ((((((((((((((((((r4 == (0 : Int)) && (r6 == (0 : Int))) && (r8 == (160 : Int))) && (r10 == (160 : Int))) && (r12 == (0 : Int))) && ((r14.len : Int) == (1 : Int))) && (x32 == (2 : Int))) && (r16 == (0 : Int))) && (r18 == (0 : Int))) && (r20.1 == (1000 : Int))) && (r20.2 == (0 : Int))) && (r22.2 == (0 : Int))) && ((r22.1.len : Int) == (2 : Int))) && (x34 == (798 : Int))) && (x36 == (4103 : Int))) && (r24 == (157 : Int))) && (r26 == (0 : Int))))) rfl rfl) ?_
    refine ro_gval (g := (((((((((((((((((r4 == (0 : Int)) && (r6 == (0 : Int))) && (r8 == (160 : Int))) && (r10 == (160 : Int))) && (r12 == (0 : Int))) && ((r14.len : Int) == (1 : Int))) && (x32 == (2 : Int))) && (r16 == (0 : Int))) && (r18 == (0 : Int))) && (r20.1 == (1000 : Int))) && (r20.2 == (0 : Int))) && (r22.2 == (0 : Int))) && ((r22.1.len : Int) == (2 : Int))) && (x34 == (798 : Int))) && (x36 == (4103 : Int))) && (r24 == (157 : Int))) && (r26 == (0 : Int)))) (d := (some 147)) rfl (.yes 77 146 true (((((((((((((((((r4 == (0 : Int)) && (r6 == (0 : Int))) && (r8 == (160 : Int))) && (r10 == (160 : Int))) && (r12 == (0 : Int))) && ((r14.len : Int) == (1 : Int))) && (x32 == (2 : Int))) && (r16 == (0 : Int))) && (r18 == (0 : Int))) && (r20.1 == (1000 : Int))) && (r20.2 == (0 : Int))) && (r22.2 == (0 : Int))) && ((r22.1.len : Int) == (2 : Int))) && (x34 == (798 : Int))) && (x36 == (4103 : Int))) && (r24 == (157 : Int))) && (r26 == (0 : Int))) rfl rfl rfl rfl) rfl (fun hg => q_move (v := .int .i64 (r28.1)) rfl rfl) ?_
    refine ro_gval (g := (((((((((((((((((r4 == (0 : Int)) && (r6 == (0 : Int))) && (r8 == (160 : Int))) && (r10 == (160 : Int))) && (r12 == (0 : Int))) && ((r14.len : Int) == (1 : Int))) && (x32 == (2 : Int))) && (r16 == (0 : Int))) && (r18 == (0 : Int))) && (r20.1 == (1000 : Int))) && (r20.2 == (0 : Int))) && (r22.2 == (0 : Int))) && ((r22.1.len : Int) == (2 : Int))) && (x34 == (798 : Int))) && (x36 == (4103 : Int))) && (r24 == (157 : Int))) && (r26 == (0 : Int)))) (d := (some 148)) rfl (.yes 77 146 true (((((((((((((((((r4 == (0 : Int)) && (r6 == (0 : Int))) && (r8 == (160 : Int))) && (r10 == (160 : Int))) && (r12 == (0 : Int))) && ((r14.len : Int) == (1 : Int))) && (x32 == (2 : Int))) && (r16 == (0 : Int))) && (r18 == (0 : Int))) && (r20.1 == (1000 : Int))) && (r20.2 == (0 : Int))) && (r22.2 == (0 : Int))) && ((r22.1.len : Int) == (2 : Int))) && (x34 == (798 : Int))) && (x36 == (4103 : Int))) && (r24 == (157 : Int))) && (r26 == (0 : Int))) rfl rfl rfl rfl) rfl (fun hg => q_eql (k := .i64) (a := r28.1) (b := (2 : Int)) rfl (gvb_yes hg) rfl) ?_
    refine rv 149 rfl rfl rfl (q_pickGT (a := (((((((((((((((((r4 == (0 : Int)) && (r6 == (0 : Int))) && (r8 == (160 : Int))) && (r10 == (160 : Int))) && (r12 == (0 : Int))) && ((r14.len : Int) == (1 : Int))) && (x32 == (2 : Int))) && (r16 == (0 : Int))) && (r18 == (0 : Int))) && (r20.1 == (1000 : Int))) && (r20.2 == (0 : Int))) && (r22.2 == (0 : Int))) && ((r22.1.len : Int) == (2 : Int))) && (x34 == (798 : Int))) && (x36 == (4103 : Int))) && (r24 == (157 : Int))) && (r26 == (0 : Int)))) (b := (r28.1 == (2 : Int))) rfl rfl rfl rfl) ?_
    refine rv 150 rfl rfl rfl (q_move (v := .bool (((((((((((((((((((r4 == (0 : Int)) && (r6 == (0 : Int))) && (r8 == (160 : Int))) && (r10 == (160 : Int))) && (r12 == (0 : Int))) && ((r14.len : Int) == (1 : Int))) && (x32 == (2 : Int))) && (r16 == (0 : Int))) && (r18 == (0 : Int))) && (r20.1 == (1000 : Int))) && (r20.2 == (0 : Int))) && (r22.2 == (0 : Int))) && ((r22.1.len : Int) == (2 : Int))) && (x34 == (798 : Int))) && (x36 == (4103 : Int))) && (r24 == (157 : Int))) && (r26 == (0 : Int))) && (r28.1 == (2 : Int))))) rfl rfl) ?_
    refine ro_gval (g := ((((((((((((((((((r4 == (0 : Int)) && (r6 == (0 : Int))) && (r8 == (160 : Int))) && (r10 == (160 : Int))) && (r12 == (0 : Int))) && ((r14.len : Int) == (1 : Int))) && (x32 == (2 : Int))) && (r16 == (0 : Int))) && (r18 == (0 : Int))) && (r20.1 == (1000 : Int))) && (r20.2 == (0 : Int))) && (r22.2 == (0 : Int))) && ((r22.1.len : Int) == (2 : Int))) && (x34 == (798 : Int))) && (x36 == (4103 : Int))) && (r24 == (157 : Int))) && (r26 == (0 : Int))) && (r28.1 == (2 : Int)))) (d := (some 151)) rfl (.yes 81 150 true ((((((((((((((((((r4 == (0 : Int)) && (r6 == (0 : Int))) && (r8 == (160 : Int))) && (r10 == (160 : Int))) && (r12 == (0 : Int))) && ((r14.len : Int) == (1 : Int))) && (x32 == (2 : Int))) && (r16 == (0 : Int))) && (r18 == (0 : Int))) && (r20.1 == (1000 : Int))) && (r20.2 == (0 : Int))) && (r22.2 == (0 : Int))) && ((r22.1.len : Int) == (2 : Int))) && (x34 == (798 : Int))) && (x36 == (4103 : Int))) && (r24 == (157 : Int))) && (r26 == (0 : Int))) && (r28.1 == (2 : Int))) rfl rfl rfl rfl) rfl (fun hg => q_move (v := .int .i64 (r28.2)) rfl rfl) ?_
    refine ro_gval (g := ((((((((((((((((((r4 == (0 : Int)) && (r6 == (0 : Int))) && (r8 == (160 : Int))) && (r10 == (160 : Int))) && (r12 == (0 : Int))) && ((r14.len : Int) == (1 : Int))) && (x32 == (2 : Int))) && (r16 == (0 : Int))) && (r18 == (0 : Int))) && (r20.1 == (1000 : Int))) && (r20.2 == (0 : Int))) && (r22.2 == (0 : Int))) && ((r22.1.len : Int) == (2 : Int))) && (x34 == (798 : Int))) && (x36 == (4103 : Int))) && (r24 == (157 : Int))) && (r26 == (0 : Int))) && (r28.1 == (2 : Int)))) (d := (some 152)) rfl (.yes 81 150 true ((((((((((((((((((r4 == (0 : Int)) && (r6 == (0 : Int))) && (r8 == (160 : Int))) && (r10 == (160 : Int))) && (r12 == (0 : Int))) && ((r14.len : Int) == (1 : Int))) && (x32 == (2 : Int))) && (r16 == (0 : Int))) && (r18 == (0 : Int))) && (r20.1 == (1000 : Int))) && (r20.2 == (0 : Int))) && (r22.2 == (0 : Int))) && ((r22.1.len : Int) == (2 : Int))) && (x34 == (798 : Int))) && (x36 == (4103 : Int))) && (r24 == (157 : Int))) && (r26 == (0 : Int))) && (r28.1 == (2 : Int))) rfl rfl rfl rfl) rfl (fun hg => q_eql (k := .i64) (a := r28.2) (b := (9 : Int)) rfl (gvb_yes hg) rfl) ?_
    refine rv 153 rfl rfl rfl (q_pickGT (a := ((((((((((((((((((r4 == (0 : Int)) && (r6 == (0 : Int))) && (r8 == (160 : Int))) && (r10 == (160 : Int))) && (r12 == (0 : Int))) && ((r14.len : Int) == (1 : Int))) && (x32 == (2 : Int))) && (r16 == (0 : Int))) && (r18 == (0 : Int))) && (r20.1 == (1000 : Int))) && (r20.2 == (0 : Int))) && (r22.2 == (0 : Int))) && ((r22.1.len : Int) == (2 : Int))) && (x34 == (798 : Int))) && (x36 == (4103 : Int))) && (r24 == (157 : Int))) && (r26 == (0 : Int))) && (r28.1 == (2 : Int)))) (b := (r28.2 == (9 : Int))) rfl rfl rfl rfl) ?_
    refine rv 154 rfl rfl rfl (q_move (v := .bool ((((((((((((((((((((r4 == (0 : Int)) && (r6 == (0 : Int))) && (r8 == (160 : Int))) && (r10 == (160 : Int))) && (r12 == (0 : Int))) && ((r14.len : Int) == (1 : Int))) && (x32 == (2 : Int))) && (r16 == (0 : Int))) && (r18 == (0 : Int))) && (r20.1 == (1000 : Int))) && (r20.2 == (0 : Int))) && (r22.2 == (0 : Int))) && ((r22.1.len : Int) == (2 : Int))) && (x34 == (798 : Int))) && (x36 == (4103 : Int))) && (r24 == (157 : Int))) && (r26 == (0 : Int))) && (r28.1 == (2 : Int))) && (r28.2 == (9 : Int))))) rfl rfl) ?_
    refine ro_gval (g := (((((((((((((((((((r4 == (0 : Int)) && (r6 == (0 : Int))) && (r8 == (160 : Int))) && (r10 == (160 : Int))) && (r12 == (0 : Int))) && ((r14.len : Int) == (1 : Int))) && (x32 == (2 : Int))) && (r16 == (0 : Int))) && (r18 == (0 : Int))) && (r20.1 == (1000 : Int))) && (r20.2 == (0 : Int))) && (r22.2 == (0 : Int))) && ((r22.1.len : Int) == (2 : Int))) && (x34 == (798 : Int))) && (x36 == (4103 : Int))) && (r24 == (157 : Int))) && (r26 == (0 : Int))) && (r28.1 == (2 : Int))) && (r28.2 == (9 : Int)))) (d := (some 155)) rfl (.yes 85 154 true (((((((((((((((((((r4 == (0 : Int)) && (r6 == (0 : Int))) && (r8 == (160 : Int))) && (r10 == (160 : Int))) && (r12 == (0 : Int))) && ((r14.len : Int) == (1 : Int))) && (x32 == (2 : Int))) && (r16 == (0 : Int))) && (r18 == (0 : Int))) && (r20.1 == (1000 : Int))) && (r20.2 == (0 : Int))) && (r22.2 == (0 : Int))) && ((r22.1.len : Int) == (2 : Int))) && (x34 == (798 : Int))) && (x36 == (4103 : Int))) && (r24 == (157 : Int))) && (r26 == (0 : Int))) && (r28.1 == (2 : Int))) && (r28.2 == (9 : Int))) rfl rfl rfl rfl) rfl (fun hg => q_move (v := .int .i64 (r30)) rfl rfl) ?_
    refine ro_gval (g := (((((((((((((((((((r4 == (0 : Int)) && (r6 == (0 : Int))) && (r8 == (160 : Int))) && (r10 == (160 : Int))) && (r12 == (0 : Int))) && ((r14.len : Int) == (1 : Int))) && (x32 == (2 : Int))) && (r16 == (0 : Int))) && (r18 == (0 : Int))) && (r20.1 == (1000 : Int))) && (r20.2 == (0 : Int))) && (r22.2 == (0 : Int))) && ((r22.1.len : Int) == (2 : Int))) && (x34 == (798 : Int))) && (x36 == (4103 : Int))) && (r24 == (157 : Int))) && (r26 == (0 : Int))) && (r28.1 == (2 : Int))) && (r28.2 == (9 : Int)))) (d := (some 156)) rfl (.yes 85 154 true (((((((((((((((((((r4 == (0 : Int)) && (r6 == (0 : Int))) && (r8 == (160 : Int))) && (r10 == (160 : Int))) && (r12 == (0 : Int))) && ((r14.len : Int) == (1 : Int))) && (x32 == (2 : Int))) && (r16 == (0 : Int))) && (r18 == (0 : Int))) && (r20.1 == (1000 : Int))) && (r20.2 == (0 : Int))) && (r22.2 == (0 : Int))) && ((r22.1.len : Int) == (2 : Int))) && (x34 == (798 : Int))) && (x36 == (4103 : Int))) && (r24 == (157 : Int))) && (r26 == (0 : Int))) && (r28.1 == (2 : Int))) && (r28.2 == (9 : Int))) rfl rfl rfl rfl) rfl (fun hg => q_eql (k := .i64) (a := r30) (b := (0 : Int)) rfl (gvb_yes hg) rfl) ?_
    refine rv 157 rfl rfl rfl (q_pickGT (a := (((((((((((((((((((r4 == (0 : Int)) && (r6 == (0 : Int))) && (r8 == (160 : Int))) && (r10 == (160 : Int))) && (r12 == (0 : Int))) && ((r14.len : Int) == (1 : Int))) && (x32 == (2 : Int))) && (r16 == (0 : Int))) && (r18 == (0 : Int))) && (r20.1 == (1000 : Int))) && (r20.2 == (0 : Int))) && (r22.2 == (0 : Int))) && ((r22.1.len : Int) == (2 : Int))) && (x34 == (798 : Int))) && (x36 == (4103 : Int))) && (r24 == (157 : Int))) && (r26 == (0 : Int))) && (r28.1 == (2 : Int))) && (r28.2 == (9 : Int)))) (b := (r30 == (0 : Int))) rfl rfl rfl rfl) ?_
    refine rv 158 rfl rfl rfl (q_move (v := .bool (((((((((((((((((((((r4 == (0 : Int)) && (r6 == (0 : Int))) && (r8 == (160 : Int))) && (r10 == (160 : Int))) && (r12 == (0 : Int))) && ((r14.len : Int) == (1 : Int))) && (x32 == (2 : Int))) && (r16 == (0 : Int))) && (r18 == (0 : Int))) && (r20.1 == (1000 : Int))) && (r20.2 == (0 : Int))) && (r22.2 == (0 : Int))) && ((r22.1.len : Int) == (2 : Int))) && (x34 == (798 : Int))) && (x36 == (4103 : Int))) && (r24 == (157 : Int))) && (r26 == (0 : Int))) && (r28.1 == (2 : Int))) && (r28.2 == (9 : Int))) && (r30 == (0 : Int))))) rfl rfl) ?_
    refine ro_join (σ := Bool) (J := fun (s : Bool) w => F8_j1 r2 s w R) (fr := fun g (s : Bool) => upd (upd (g) 1 (.pointer (r2.1))) 162 (.bool (s))) [90, 91, 92, 93] [94, 95, 96, 97, 98, 99, 100, 101, 102, 103, 104, 105, 106, 107, 108, 109, 110] ?_ ?_
    · rintro t_37 g w38 h
      unfold F8_j1 at h
      refine rv 163 rfl rfl rfl (q_move (v := .bool (t_37)) rfl rfl) ?_
      refine ro_join (σ := Bool) (J := fun (s : Bool) w => F8_j2 r2 s w R) (fr := fun g (s : Bool) => upd (upd (g) 1 (.pointer (r2.1))) 170 (.bool (s))) [95, 96, 97, 98, 99, 100, 101] [102, 103, 104, 105, 106, 107, 108, 109, 110] ?_ ?_
      · rintro t_39 g w40 h
        unfold F8_j2 at h
        refine rv 171 rfl rfl rfl (q_move (v := .bool (t_39)) rfl rfl) ?_
        refine ro_join (σ := Bool) (J := fun (s : Bool) w => F8_j3 s w R) (fr := fun g (s : Bool) => upd (g) 178 (.bool (s))) [103, 104, 105, 106, 107, 108, 109] [110] ?_ ?_
        · rintro t_41 g w42 h
          unfold F8_j3 at h
          refine rv 0 rfl rfl rfl (q_assign (v := .bool (t_41)) rfl rfl) ?_
          refine ro_nil ?_
          refine wp_ret ?_
          exact ret_ok rfl (.cons (.tmp (v := .bool (t_41)) rfl) .nil) ⟨t_41, rfl, h⟩
        · refine ro_if (b := t_39) h (fun hb43 h => ?_) (fun hb43 h => ?_)
          · refine ro_val (d := (some 172)) rfl (.by_ 102 true 171 t_39 rfl rfl rfl hb43) rfl (q_move (v := .pointer (r2.1)) rfl rfl) ?_
            obtain ⟨a44, ha44, h⟩ := h
            refine ro_val (d := (some 173)) rfl (.by_ 102 true 171 t_39 rfl rfl rfl hb43) rfl (q_nilCheck (a := a44) rfl (congrArg Value.pointer ha44)) ?_
            refine ro_val (d := (some 174)) rfl (.by_ 102 true 171 t_39 rfl rfl rfl hb43) rfl (q_fieldAddr (a := a44) (off := 0) rfl Tryz.underlying35 rfl rfl ok30 (by decide) rfl) ?_
            obtain ⟨x45, hx45, h⟩ := h
            refine ro_val (d := (some 175)) rfl (.by_ 102 true 171 t_39 rfl rfl rfl hb43) rfl (q_load (T := T29) (u := x45) (a := (a44.add 0)) rfl ok30 rfl hx45) ?_
            refine ro_wp rfl (.by_ 102 true 171 t_39 rfl rfl rfl hb43) (wp_cl (d := (some 176)) rfl (q_call (k := 13) (l := [T29.enc (x45)]) rfl ent13 rfl) h ?_)
            intro r47 w46 h
            refine ro_val (d := (some 177)) rfl (.by_ 102 true 171 t_39 rfl rfl rfl hb43) rfl (q_eql (a := r47) (b := (9 : Int)) rfl rfl rfl) ?_
            refine rv 178 rfl rfl rfl (q_pickT (v := .bool ((r47 == (9 : Int)))) (b := t_39) rfl rfl hb43 rfl) ?_
            refine ro_nil ?_
            exact ⟨((r47 == (9 : Int))), _, arr (upd_step rfl rfl), h⟩
          · refine ro_bar (d := (some 172)) rfl (.by_ 102 true 171 t_39 rfl rfl rfl hb43) rfl ?_
            refine ro_bar (d := (some 173)) rfl (.by_ 102 true 171 t_39 rfl rfl rfl hb43) rfl ?_
            refine ro_bar (d := (some 174)) rfl (.by_ 102 true 171 t_39 rfl rfl rfl hb43) rfl ?_
            refine ro_bar (d := (some 175)) rfl (.by_ 102 true 171 t_39 rfl rfl rfl hb43) rfl ?_
            refine ro_bar (d := (some 176)) rfl (.by_ 102 true 171 t_39 rfl rfl rfl hb43) rfl ?_
            refine ro_bar (d := (some 177)) rfl (.by_ 102 true 171 t_39 rfl rfl rfl hb43) rfl ?_
            refine rv 178 rfl rfl rfl (q_pickF (v := .bool (false)) (b := t_39) rfl rfl hb43 rfl) ?_
            refine ro_nil ?_
            exact ⟨(false), _, arr (upd_step rfl rfl), h⟩
      · refine ro_if (b := t_37) h (fun hb48 h => ?_) (fun hb48 h => ?_)
        · refine ro_val (d := (some 164)) rfl (.by_ 94 true 163 t_37 rfl rfl rfl hb48) rfl (q_move (v := .pointer (r2.1)) rfl rfl) ?_
          obtain ⟨a49, ha49, h⟩ := h
          refine ro_val (d := (some 165)) rfl (.by_ 94 true 163 t_37 rfl rfl rfl hb48) rfl (q_nilCheck (a := a49) rfl (congrArg Value.pointer ha49)) ?_
          refine ro_val (d := (some 166)) rfl (.by_ 94 true 163 t_37 rfl rfl rfl hb48) rfl (q_fieldAddr (a := a49) (off := 0) rfl Tryz.underlying35 rfl rfl ok30 (by decide) rfl) ?_
          obtain ⟨x50, hx50, h⟩ := h
          refine ro_val (d := (some 167)) rfl (.by_ 94 true 163 t_37 rfl rfl rfl hb48) rfl (q_load (T := T29) (u := x50) (a := (a49.add 0)) rfl ok30 rfl hx50) ?_
          refine ro_wp rfl (.by_ 94 true 163 t_37 rfl rfl rfl hb48) (wp_cl (d := (some 168)) rfl (q_call (k := 9) (l := [T29.enc (x50)]) rfl ent9 rfl) h ?_)
          intro r52 w51 h
          refine ro_val (d := (some 169)) rfl (.by_ 94 true 163 t_37 rfl rfl rfl hb48) rfl (q_eql (a := r52) (b := (9 : Int)) rfl rfl rfl) ?_
          refine rv 170 rfl rfl rfl (q_pickT (v := .bool ((r52 == (9 : Int)))) (b := t_37) rfl rfl hb48 rfl) ?_
          refine ro_nil ?_
          exact ⟨((r52 == (9 : Int))), _, arr (upd_step (upd_step rfl rfl) rfl), h⟩
        · refine ro_bar (d := (some 164)) rfl (.by_ 94 true 163 t_37 rfl rfl rfl hb48) rfl ?_
          refine ro_bar (d := (some 165)) rfl (.by_ 94 true 163 t_37 rfl rfl rfl hb48) rfl ?_
          refine ro_bar (d := (some 166)) rfl (.by_ 94 true 163 t_37 rfl rfl rfl hb48) rfl ?_
          refine ro_bar (d := (some 167)) rfl (.by_ 94 true 163 t_37 rfl rfl rfl hb48) rfl ?_
          refine ro_bar (d := (some 168)) rfl (.by_ 94 true 163 t_37 rfl rfl rfl hb48) rfl ?_
          refine ro_bar (d := (some 169)) rfl (.by_ 94 true 163 t_37 rfl rfl rfl hb48) rfl ?_
          refine rv 170 rfl rfl rfl (q_pickF (v := .bool (false)) (b := t_37) rfl rfl hb48 rfl) ?_
          refine ro_nil ?_
          exact ⟨(false), _, arr (upd_step (upd_step rfl rfl) rfl), h⟩
    · refine ro_if (b := ((((((((((((((((((((r4 == (0 : Int)) && (r6 == (0 : Int))) && (r8 == (160 : Int))) && (r10 == (160 : Int))) && (r12 == (0 : Int))) && ((r14.len : Int) == (1 : Int))) && (x32 == (2 : Int))) && (r16 == (0 : Int))) && (r18 == (0 : Int))) && (r20.1 == (1000 : Int))) && (r20.2 == (0 : Int))) && (r22.2 == (0 : Int))) && ((r22.1.len : Int) == (2 : Int))) && (x34 == (798 : Int))) && (x36 == (4103 : Int))) && (r24 == (157 : Int))) && (r26 == (0 : Int))) && (r28.1 == (2 : Int))) && (r28.2 == (9 : Int))) && (r30 == (0 : Int)))) h (fun hb53 h => ?_) (fun hb53 h => ?_)
      · refine ro_val (d := (some 159)) rfl (.by_ 89 true 158 ((((((((((((((((((((r4 == (0 : Int)) && (r6 == (0 : Int))) && (r8 == (160 : Int))) && (r10 == (160 : Int))) && (r12 == (0 : Int))) && ((r14.len : Int) == (1 : Int))) && (x32 == (2 : Int))) && (r16 == (0 : Int))) && (r18 == (0 : Int))) && (r20.1 == (1000 : Int))) && (r20.2 == (0 : Int))) && (r22.2 == (0 : Int))) && ((r22.1.len : Int) == (2 : Int))) && (x34 == (798 : Int))) && (x36 == (4103 : Int))) && (r24 == (157 : Int))) && (r26 == (0 : Int))) && (r28.1 == (2 : Int))) && (r28.2 == (9 : Int))) && (r30 == (0 : Int))) rfl rfl rfl hb53) rfl (q_move (v := .pointer (r2.1)) rfl rfl) ?_
        refine ro_wp rfl (.by_ 89 true 158 ((((((((((((((((((((r4 == (0 : Int)) && (r6 == (0 : Int))) && (r8 == (160 : Int))) && (r10 == (160 : Int))) && (r12 == (0 : Int))) && ((r14.len : Int) == (1 : Int))) && (x32 == (2 : Int))) && (r16 == (0 : Int))) && (r18 == (0 : Int))) && (r20.1 == (1000 : Int))) && (r20.2 == (0 : Int))) && (r22.2 == (0 : Int))) && ((r22.1.len : Int) == (2 : Int))) && (x34 == (798 : Int))) && (x36 == (4103 : Int))) && (r24 == (157 : Int))) && (r26 == (0 : Int))) && (r28.1 == (2 : Int))) && (r28.2 == (9 : Int))) && (r30 == (0 : Int))) rfl rfl rfl hb53) (wp_cl (d := (some 160)) rfl (q_call (k := 18) (l := [.pointer (r2.1)]) rfl ent18 rfl) h ?_)
        intro r55 w54 h
        refine ro_val (d := (some 161)) rfl (.by_ 89 true 158 ((((((((((((((((((((r4 == (0 : Int)) && (r6 == (0 : Int))) && (r8 == (160 : Int))) && (r10 == (160 : Int))) && (r12 == (0 : Int))) && ((r14.len : Int) == (1 : Int))) && (x32 == (2 : Int))) && (r16 == (0 : Int))) && (r18 == (0 : Int))) && (r20.1 == (1000 : Int))) && (r20.2 == (0 : Int))) && (r22.2 == (0 : Int))) && ((r22.1.len : Int) == (2 : Int))) && (x34 == (798 : Int))) && (x36 == (4103 : Int))) && (r24 == (157 : Int))) && (r26 == (0 : Int))) && (r28.1 == (2 : Int))) && (r28.2 == (9 : Int))) && (r30 == (0 : Int))) rfl rfl rfl hb53) rfl (q_eql (a := r55) (b := (9 : Int)) rfl rfl rfl) ?_
        refine rv 162 rfl rfl rfl (q_pickT (v := .bool ((r55 == (9 : Int)))) (b := ((((((((((((((((((((r4 == (0 : Int)) && (r6 == (0 : Int))) && (r8 == (160 : Int))) && (r10 == (160 : Int))) && (r12 == (0 : Int))) && ((r14.len : Int) == (1 : Int))) && (x32 == (2 : Int))) && (r16 == (0 : Int))) && (r18 == (0 : Int))) && (r20.1 == (1000 : Int))) && (r20.2 == (0 : Int))) && (r22.2 == (0 : Int))) && ((r22.1.len : Int) == (2 : Int))) && (x34 == (798 : Int))) && (x36 == (4103 : Int))) && (r24 == (157 : Int))) && (r26 == (0 : Int))) && (r28.1 == (2 : Int))) && (r28.2 == (9 : Int))) && (r30 == (0 : Int)))) rfl rfl hb53 rfl) ?_
        refine ro_nil ?_
        exact ⟨((r55 == (9 : Int))), _, arr (upd_step (upd_step rfl rfl) rfl), h⟩
      · refine ro_bar (d := (some 159)) rfl (.by_ 89 true 158 ((((((((((((((((((((r4 == (0 : Int)) && (r6 == (0 : Int))) && (r8 == (160 : Int))) && (r10 == (160 : Int))) && (r12 == (0 : Int))) && ((r14.len : Int) == (1 : Int))) && (x32 == (2 : Int))) && (r16 == (0 : Int))) && (r18 == (0 : Int))) && (r20.1 == (1000 : Int))) && (r20.2 == (0 : Int))) && (r22.2 == (0 : Int))) && ((r22.1.len : Int) == (2 : Int))) && (x34 == (798 : Int))) && (x36 == (4103 : Int))) && (r24 == (157 : Int))) && (r26 == (0 : Int))) && (r28.1 == (2 : Int))) && (r28.2 == (9 : Int))) && (r30 == (0 : Int))) rfl rfl rfl hb53) rfl ?_
        refine ro_bar (d := (some 160)) rfl (.by_ 89 true 158 ((((((((((((((((((((r4 == (0 : Int)) && (r6 == (0 : Int))) && (r8 == (160 : Int))) && (r10 == (160 : Int))) && (r12 == (0 : Int))) && ((r14.len : Int) == (1 : Int))) && (x32 == (2 : Int))) && (r16 == (0 : Int))) && (r18 == (0 : Int))) && (r20.1 == (1000 : Int))) && (r20.2 == (0 : Int))) && (r22.2 == (0 : Int))) && ((r22.1.len : Int) == (2 : Int))) && (x34 == (798 : Int))) && (x36 == (4103 : Int))) && (r24 == (157 : Int))) && (r26 == (0 : Int))) && (r28.1 == (2 : Int))) && (r28.2 == (9 : Int))) && (r30 == (0 : Int))) rfl rfl rfl hb53) rfl ?_
        refine ro_bar (d := (some 161)) rfl (.by_ 89 true 158 ((((((((((((((((((((r4 == (0 : Int)) && (r6 == (0 : Int))) && (r8 == (160 : Int))) && (r10 == (160 : Int))) && (r12 == (0 : Int))) && ((r14.len : Int) == (1 : Int))) && (x32 == (2 : Int))) && (r16 == (0 : Int))) && (r18 == (0 : Int))) && (r20.1 == (1000 : Int))) && (r20.2 == (0 : Int))) && (r22.2 == (0 : Int))) && ((r22.1.len : Int) == (2 : Int))) && (x34 == (798 : Int))) && (x36 == (4103 : Int))) && (r24 == (157 : Int))) && (r26 == (0 : Int))) && (r28.1 == (2 : Int))) && (r28.2 == (9 : Int))) && (r30 == (0 : Int))) rfl rfl rfl hb53) rfl ?_
        refine rv 162 rfl rfl rfl (q_pickF (v := .bool (false)) (b := ((((((((((((((((((((r4 == (0 : Int)) && (r6 == (0 : Int))) && (r8 == (160 : Int))) && (r10 == (160 : Int))) && (r12 == (0 : Int))) && ((r14.len : Int) == (1 : Int))) && (x32 == (2 : Int))) && (r16 == (0 : Int))) && (r18 == (0 : Int))) && (r20.1 == (1000 : Int))) && (r20.2 == (0 : Int))) && (r22.2 == (0 : Int))) && ((r22.1.len : Int) == (2 : Int))) && (x34 == (798 : Int))) && (x36 == (4103 : Int))) && (r24 == (157 : Int))) && (r26 == (0 : Int))) && (r28.1 == (2 : Int))) && (r28.2 == (9 : Int))) && (r30 == (0 : Int)))) rfl rfl hb53 rfl) ?_
        refine ro_nil ?_
        exact ⟨(false), _, arr (upd_step (upd_step rfl rfl) rfl), h⟩
end Go.Proofs.YtpdaapffkdejoaaGreat.Cf
namespace Go.Proofs.YtpdaapffkdejoaaGreat.Cf
open Go
set_option maxRecDepth 100000
set_option maxHeartbeats 1000000
set_option linter.unusedVariables false
set_option linter.unusedSimpArgs false
def F9 (p_1 : S29) (w : World) (R : Int → World → Prop) : Prop :=
  nw 30 T29 p_1 w fun a2 w3 =>
  ex (RdAt tPtr (a2.add 0) w3) fun x4 =>
  cl Tryz.prog 26 [.pointer (x4)] (tInt .i64) w3 fun r6 w5 =>
  R r6 w5
theorem F9_ok {p_1 : S29} {w : World} {R : Int → World → Prop} (h : F9 p_1 w R) : cl Tryz.prog 9 [T29.enc (p_1)] (tInt .i64) w R := by
  unfold F9 at h
  refine calls_start 6 Tryz.func9 rfl rfl (Nat.le_of_ble_eq_true rfl) ?_
  refine wp_seq ?_
  refine wp_text [0, 1] rfl ?_
  obtain ⟨a2, w3, ha2, hw3, h⟩ := nw_open h
  refine rv 1 rfl rfl rfl (q_box (u := p_1) rfl ok30 rfl ha2 hw3) ?_
  refine rv 2 rfl rfl rfl (q_assign (v := .int .i64 ((0 : Int))) rfl rfl) ?_
  refine ro_nil ?_
  refine wp_seq ?_
  refine wp_text [0, 1, 2, 3] rfl ?_
  refine rv 3 rfl rfl rfl (q_fieldAddr (a := a2) (off := 0) rfl Tryz.underlying30 rfl rfl ok28 (by decide) rfl) ?_
  obtain ⟨x4, hx4, h⟩ := h
  refine rv 4 rfl rfl rfl (q_load (T := tPtr) (u := x4) (a := (a2.add 0)) rfl ok28 rfl hx4) ?_
  refine ro_wp rfl (.free rfl) (wp_cl (d := (some 5)) rfl (q_call (k := 26) (l := [.pointer (x4)]) rfl ent26 rfl) h ?_)
  intro r6 w5 h
  refine rv 2 rfl rfl rfl (q_assign (v := .int .i64 (r6)) rfl rfl) ?_
  refine ro_nil ?_
  refine wp_ret ?_
  exact ret_ok rfl (.cons (.tmp (v := .int .i64 (r6)) rfl) .nil) ⟨r6, rfl, h⟩
def F10 (v_1 : (Option Addr)) (at_2 : Int) (w : World) (R : (Slc × Int) → World → Prop) : Prop :=
  ex (NC v_1) fun a3 =>
  ex (RdAt tPtr ((a3.add 0).add 0) w) fun x4 =>
  cl Tryz.prog 27 [.pointer (x4), .int .i64 (at_2)] (tTup2 tSlc (tInt .i64)) w fun r6 w5 =>
  cl Tryz.prog 28 [.int .i64 (r6.2)] (tInt .i64) w5 fun r8 w7 =>
  R (r6.1, r8) w7
theorem F10_ok {v_1 : (Option Addr)} {at_2 : Int} {w : World} {R : (Slc × Int) → World → Prop} (h : F10 v_1 at_2 w R) : cl Tryz.prog 10 [.pointer (v_1), .int .i64 (at_2)] (tTup2 tSlc (tInt .i64)) w R := by
  unfold F10 at h
  refine calls_start 21 Tryz.func10 rfl rfl (Nat.le_of_ble_eq_true rfl) ?_
  refine wp_seq ?_
  refine wp_text [0, 1] rfl ?_
  refine rv 4 rfl rfl rfl (q_assign (v := tSlc.enc ((⟨none, 0, 0⟩ : Slc))) rfl rfl) ?_
  refine rv 5 rfl rfl rfl (q_assign (v := .int .i64 ((0 : Int))) rfl rfl) ?_
  refine ro_nil ?_
  refine wp_seq ?_
  refine wp_text [0, 1, 2, 3, 4, 5, 6, 7, 8, 9, 10, 11] rfl ?_
  refine rv 9 rfl rfl rfl (q_move (v := .pointer (v_1)) rfl rfl) ?_
  obtain ⟨a3, ha3, h⟩ := h
  refine rv 10 rfl rfl rfl (q_nilCheck (a := a3) rfl (congrArg Value.pointer ha3)) ?_
  refine rv 11 rfl rfl rfl (q_fieldAddr (a := a3) (off := 0) rfl Tryz.underlying35 rfl rfl ok30 (by decide) rfl) ?_
  refine rv 12 rfl rfl rfl (q_fieldAddr (a := (a3.add 0)) (off := 0) rfl Tryz.underlying30 rfl rfl ok28 (by decide) rfl) ?_
  obtain ⟨x4, hx4, h⟩ := h
  refine rv 13 rfl rfl rfl (q_load (T := tPtr) (u := x4) (a := ((a3.add 0).add 0)) rfl ok28 rfl hx4) ?_
  refine rv 14 rfl rfl rfl (q_move (v := .int .i64 (at_2)) rfl rfl) ?_
  refine ro_wp rfl (.free rfl) (wp_cl (d := (some 15)) rfl (q_call (k := 27) (l := [.pointer (x4), .int .i64 (at_2)]) rfl ent27 rfl) h ?_)
  intro r6 w5 h
  refine rv 8 rfl rfl rfl (q_move (v := (tTup2 tSlc (tInt .i64)).enc (r6)) rfl rfl) ?_
  refine rv 16 rfl rfl rfl (q_extract (vs := #[tSlc.enc (r6.1), .int .i64 (r6.2)]) (v := tSlc.enc (r6.1)) rfl rfl rfl) ?_
  refine rv 17 rfl rfl rfl (q_extract (vs := #[tSlc.enc (r6.1), .int .i64 (r6.2)]) (v := .int .i64 (r6.2)) rfl rfl rfl) ?_
  refine rv 6 rfl rfl rfl (q_assign (v := tSlc.enc (r6.1)) rfl rfl) ?_
  refine rv 7 rfl rfl rfl (q_assign (v := .int .i64 (r6.2)) rfl rfl) ?_
  refine ro_nil ?_
  refine wp_seq ?_
  refine wp_text [0, 1, 2, 3, 4] rfl ?_
  refine rv 18 rfl rfl rfl (q_move (v := tSlc.enc (r6.1)) rfl rfl) ?_
  refine rv 19 rfl rfl rfl (q_move (v := .int .i64 (r6.2)) rfl rfl) ?_
  refine ro_wp rfl (.free rfl) (wp_cl (d := (some 20)) rfl (q_call (k := 28) (l := [.int .i64 (r6.2)]) rfl ent28 rfl) h ?_)
  intro r8 w7 h
  refine rv 4 rfl rfl rfl (q_assign (v := tSlc.enc (r6.1)) rfl rfl) ?_
  refine rv 5 rfl rfl rfl (q_assign (v := .int .i64 (r8)) rfl rfl) ?_
  refine ro_nil ?_
  refine wp_ret ?_
  exact ret_ok rfl (.cons (.tmp (v := tSlc.enc (r6.1)) rfl) (.cons (.tmp (v := .int .i64 (r8)) rfl) .nil)) ⟨(r6.1, r8), rfl, h⟩
def F11 (v_1 : (Option Addr)) (o_2 : S41) (w : World) (R : Int → World → Prop) : Prop :=
  nw 42 T41 o_2 w fun a3 w4 =>
  ex (RdAt (tInt .i64) (a3.add 0) w4) fun x5 =>
  if (x5 == (0 : Int)) = true then (
    ex (RdAt (tInt .i64) (a3.add 3) w4) fun x6 =>
    ex (RdAt (tInt .i64) (a3.add 2) w4) fun x7 =>
    ex (RdAt (tInt .i64) (a3.add 4) w4) fun x8 =>
    cl Tryz.prog 23 [.pointer (v_1), .int .i64 (x6), .int .i64 (x7), .int .i64 (x8)] (tInt .i64) w4 fun r10 w9 =>
    R r10 w9
  ) else (
    if (x5 == (1 : Int)) = true then (
      dr w4 fun w11 =>
      ex (RdAt (tInt .i64) (a3.add 3) w11) fun x12 =>
      ex (RdAt T41 a3 w11) fun x13 =>
      cl Tryz.prog 20 [T41.enc (x13)] T52 w11 fun r15 w14 =>
      kp ((RdAt (tInt .i64) (a3.add 3) w14) x12) <|
      cl Tryz.prog 21 [.pointer (v_1), .int .i64 (x12), T52.enc (r15)] (tInt .i64) w14 fun r18 w17 =>
      kp ((RdAt T41 a3 w17) x13) <|
      R r18 w17
    ) else (
      if (x5 == (2 : Int)) = true then (
        ex (RdAt (tInt .i64) (a3.add 3) w4) fun x20 =>
        ex (RdAt (tInt .i64) (a3.add 1) w4) fun x21 =>
        cl Tryz.prog 15 [.pointer (v_1), .int .i64 (x20), .int .i64 (x21)] (tInt .i64) w4 fun r23 w22 =>
        R r23 w22
      ) else (
        if (x5 == (3 : Int)) = true then (
          ex (RdAt (tInt .i64) (a3.add 1) w4) fun x24 =>
          cl Tryz.prog 16 [.pointer (v_1), .int .i64 (x24)] (tInt .i64) w4 fun r26 w25 =>
          R r26 w25
        ) else (
          if (x5 == (4 : Int)) = true then (
            ex (RdAt (tInt .i64) (a3.add 3) w4) fun x27 =>
            cl Tryz.prog 19 [.pointer (v_1), .int .i64 (x27)] (tInt .i64) w4 fun r29 w28 =>
            R r29 w28
          ) else (
            if (x5 == (5 : Int)) = true then (
              ex (RdAt (tInt .i64) (a3.add 3) w4) fun x30 =>
              cl Tryz.prog 25 [.pointer (v_1), .int .i64 (x30)] (tInt .i64) w4 fun r32 w31 =>
              R r32 w31
            ) else (
              R (0 : Int) w4
            )
          )
        )
      )
    )
  )
theorem F11_ok {v_1 : (Option Addr)} {o_2 : S41} {w : World} {R : Int → World → Prop} (h : F11 v_1 o_2 w R) : cl Tryz.prog 11 [.pointer (v_1), T41.enc (o_2)] (tInt .i64) w R := by
  unfold F11 at h
  refine calls_start 51 Tryz.func11 rfl rfl (Nat.le_of_ble_eq_true rfl) ?_
  refine wp_seq ?_
  refine wp_text [0, 1] rfl ?_
  obtain ⟨a3, w4, ha3, hw4, h⟩ := nw_open h
  refine rv 3 rfl rfl rfl (q_box (u := o_2) rfl ok42 rfl ha3 hw4) ?_
  refine rv 4 rfl rfl rfl (q_assign (v := .int .i64 ((0 : Int))) rfl rfl) ?_
  refine ro_nil ?_
  refine wp_seq ?_
  refine wp_seq ?_
  refine wp_text [0, 1] rfl ?_
  refine rv 5 rfl rfl rfl (q_fieldAddr (a := a3) (off := 0) rfl Tryz.underlying42 rfl rfl ok3 (by decide) rfl) ?_
  obtain ⟨x5, hx5, h⟩ := h
  refine rv 6 rfl rfl rfl (q_load (T := (tInt .i64)) (u := x5) (a := (a3.add 0)) rfl ok3 rfl hx5) ?_
  refine ro_nil ?_
  refine wp_block ?_
  refine wp_seq ?_
  refine wp_text [0, 1] rfl ?_
  refine rv 8 rfl rfl rfl (q_eql (a := x5) (b := (0 : Int)) rfl rfl rfl) ?_
  refine rv 7 rfl rfl rfl (q_assign (v := .bool ((x5 == (0 : Int)))) rfl rfl) ?_
  refine ro_nil ?_
  refine wp_if (b := (x5 == (0 : Int))) rfl h (fun hb38 h => ?_) (fun hb38 h => ?_)
  · refine wp_seq ?_
    refine wp_text [0, 1, 2, 3, 4, 5, 6, 7, 8] rfl ?_
    refine rv 9 rfl rfl rfl (q_move (v := .pointer (v_1)) rfl rfl) ?_
    refine rv 10 rfl rfl rfl (q_fieldAddr (a := a3) (off := 3) rfl Tryz.underlying42 rfl rfl ok2 (by decide) rfl) ?_
    obtain ⟨x6, hx6, h⟩ := h
    refine rv 11 rfl rfl rfl (q_load (T := (tInt .i64)) (u := x6) (a := (a3.add 3)) rfl ok2 rfl hx6) ?_
    refine rv 12 rfl rfl rfl (q_fieldAddr (a := a3) (off := 2) rfl Tryz.underlying42 rfl rfl ok3 (by decide) rfl) ?_
    obtain ⟨x7, hx7, h⟩ := h
    refine rv 13 rfl rfl rfl (q_load (T := (tInt .i64)) (u := x7) (a := (a3.add 2)) rfl ok3 rfl hx7) ?_
    refine rv 14 rfl rfl rfl (q_fieldAddr (a := a3) (off := 4) rfl Tryz.underlying42 rfl rfl ok2 (by decide) rfl) ?_
    obtain ⟨x8, hx8, h⟩ := h
    refine rv 15 rfl rfl rfl (q_load (T := (tInt .i64)) (u := x8) (a := (a3.add 4)) rfl ok2 rfl hx8) ?_
    refine ro_wp rfl (.free rfl) (wp_cl (d := (some 16)) rfl (q_call (k := 23) (l := [.pointer (v_1), .int .i64 (x6), .int .i64 (x7), .int .i64 (x8)]) rfl ent23 rfl) h ?_)
    intro r10 w9 h
    refine rv 4 rfl rfl rfl (q_assign (v := .int .i64 (r10)) rfl rfl) ?_
    refine ro_nil ?_
    refine wp_ret ?_
    exact ret_ok rfl (.cons (.tmp (v := .int .i64 (r10)) rfl) .nil) ⟨r10, rfl, h⟩
  · refine wp_seq ?_
    refine wp_text [0, 1] rfl ?_
    refine rv 18 rfl rfl rfl (q_eql (a := x5) (b := (1 : Int)) rfl rfl rfl) ?_
    refine rv 17 rfl rfl rfl (q_assign (v := .bool ((x5 == (1 : Int)))) rfl rfl) ?_
    refine ro_nil ?_
    refine wp_if (b := (x5 == (1 : Int))) rfl h (fun hb37 h => ?_) (fun hb37 h => ?_)
    · refine wp_seq ?_
      obtain ⟨w11, hw11, h⟩ := dr_open h
      refine wp_drawn 7 mixed rfl (by kernel_rfl) (by intro c a d v w h; cases d <;> exact h) hw11 (fun hD => ?_)
      refine rp 0 19 hD rfl rfl rfl (fun _ => q_move (v := .pointer (v_1)) rfl rfl) ?_
      refine rp 1 20 hD rfl rfl rfl (fun _ => q_fieldAddr (a := a3) (off := 3) rfl Tryz.underlying42 rfl rfl ok2 (by decide) rfl) ?_
      obtain ⟨x12, hx12, h⟩ := h
      refine rd_read (i := 2) (d := (some 21)) (fun W => (RdAt (tInt .i64) (a3.add 3) W) x12) hD (by kernel_rfl) (by kernel_rfl) rfl (.free rfl) rfl (fun W hr => q_load (T := (tInt .i64)) (u := x12) (a := (a3.add 3)) rfl ok2 rfl hr) hx12 ?_
      obtain ⟨x13, hx13, h⟩ := h
      refine rd_read (i := 3) (d := (some 22)) (fun W => (RdAt T41 a3 W) x13) hD (by kernel_rfl) (by kernel_rfl) rfl (.free rfl) rfl (fun W hr => q_load (T := T41) (u := x13) (a := a3) rfl ok42 rfl hr) hx13 ?_
      refine rd_one (i := 4) (by kernel_rfl) ?_
      refine po_wp rfl (.free rfl) (wp_cl (d := (some 23)) rfl (q_call (k := 20) (l := [T41.enc (x13)]) rfl ent20 rfl) h ?_)
      intro r15 w14 h
      obtain ⟨hk16, h⟩ := h
      refine ⟨(hk_wait (by kernel_rfl) (hk_keep (fun _ => hk16) hk_nil)), ?_⟩
      refine rd_one (i := 5) (by kernel_rfl) ?_
      refine po_wp rfl (.free rfl) (wp_cl (d := (some 24)) rfl (q_call (k := 21) (l := [.pointer (v_1), .int .i64 (x12), T52.enc (r15)]) rfl ent21 rfl) h ?_)
      intro r18 w17 h
      obtain ⟨hk19, h⟩ := h
      refine ⟨(hk_keep (fun _ => hk19) (hk_wait (by kernel_rfl) hk_nil)), ?_⟩
      refine rp 6 4 hD rfl rfl rfl (fun _ => q_assign (v := .int .i64 (r18)) rfl rfl) ?_
      refine rd_nil (by kernel_rfl) ?_
      refine wp_ret ?_
      exact ret_ok rfl (.cons (.tmp (v := .int .i64 (r18)) rfl) .nil) ⟨r18, rfl, h⟩
    · refine wp_seq ?_
      refine wp_text [0, 1] rfl ?_
      refine rv 26 rfl rfl rfl (q_eql (a := x5) (b := (2 : Int)) rfl rfl rfl) ?_
      refine rv 25 rfl rfl rfl (q_assign (v := .bool ((x5 == (2 : Int)))) rfl rfl) ?_
      refine ro_nil ?_
      refine wp_if (b := (x5 == (2 : Int))) rfl h (fun hb36 h => ?_) (fun hb36 h => ?_)
      · refine wp_seq ?_
        refine wp_text [0, 1, 2, 3, 4, 5, 6] rfl ?_
        refine rv 27 rfl rfl rfl (q_move (v := .pointer (v_1)) rfl rfl) ?_
        refine rv 28 rfl rfl rfl (q_fieldAddr (a := a3) (off := 3) rfl Tryz.underlying42 rfl rfl ok2 (by decide) rfl) ?_
        obtain ⟨x20, hx20, h⟩ := h
        refine rv 29 rfl rfl rfl (q_load (T := (tInt .i64)) (u := x20) (a := (a3.add 3)) rfl ok2 rfl hx20) ?_
        refine rv 30 rfl rfl rfl (q_fieldAddr (a := a3) (off := 1) rfl Tryz.underlying42 rfl rfl ok3 (by decide) rfl) ?_
        obtain ⟨x21, hx21, h⟩ := h
        refine rv 31 rfl rfl rfl (q_load (T := (tInt .i64)) (u := x21) (a := (a3.add 1)) rfl ok3 rfl hx21) ?_
        refine ro_wp rfl (.free rfl) (wp_cl (d := (some 32)) rfl (q_call (k := 15) (l := [.pointer (v_1), .int .i64 (x20), .int .i64 (x21)]) rfl ent15 rfl) h ?_)
        intro r23 w22 h
        refine rv 4 rfl rfl rfl (q_assign (v := .int .i64 (r23)) rfl rfl) ?_
        refine ro_nil ?_
        refine wp_ret ?_
        exact ret_ok rfl (.cons (.tmp (v := .int .i64 (r23)) rfl) .nil) ⟨r23, rfl, h⟩
      · refine wp_seq ?_
        refine wp_text [0, 1] rfl ?_
        refine rv 34 rfl rfl rfl (q_eql (a := x5) (b := (3 : Int)) rfl rfl rfl) ?_
        refine rv 33 rfl rfl rfl (q_assign (v := .bool ((x5 == (3 : Int)))) rfl rfl) ?_
        refine ro_nil ?_
        refine wp_if (b := (x5 == (3 : Int))) rfl h (fun hb35 h => ?_) (fun hb35 h => ?_)
        · refine wp_seq ?_
          refine wp_text [0, 1, 2, 3, 4] rfl ?_
          refine rv 35 rfl rfl rfl (q_move (v := .pointer (v_1)) rfl rfl) ?_
          refine rv 36 rfl rfl rfl (q_fieldAddr (a := a3) (off := 1) rfl Tryz.underlying42 rfl rfl ok3 (by decide) rfl) ?_
          obtain ⟨x24, hx24, h⟩ := h
          refine rv 37 rfl rfl rfl (q_load (T := (tInt .i64)) (u := x24) (a := (a3.add 1)) rfl ok3 rfl hx24) ?_
          refine ro_wp rfl (.free rfl) (wp_cl (d := (some 38)) rfl (q_call (k := 16) (l := [.pointer (v_1), .int .i64 (x24)]) rfl ent16 rfl) h ?_)
          intro r26 w25 h
          refine rv 4 rfl rfl rfl (q_assign (v := .int .i64 (r26)) rfl rfl) ?_
          refine ro_nil ?_
          refine wp_ret ?_
          exact ret_ok rfl (.cons (.tmp (v := .int .i64 (r26)) rfl) .nil) ⟨r26, rfl, h⟩
        · refine wp_seq ?_
          refine wp_text [0, 1] rfl ?_
          refine rv 40 rfl rfl rfl (q_eql (a := x5) (b := (4 : Int)) rfl rfl rfl) ?_
          refine rv 39 rfl rfl rfl (q_assign (v := .bool ((x5 == (4 : Int)))) rfl rfl) ?_
          refine ro_nil ?_
          refine wp_if (b := (x5 == (4 : Int))) rfl h (fun hb34 h => ?_) (fun hb34 h => ?_)
          · refine wp_seq ?_
            refine wp_text [0, 1, 2, 3, 4] rfl ?_
            refine rv 41 rfl rfl rfl (q_move (v := .pointer (v_1)) rfl rfl) ?_
            refine rv 42 rfl rfl rfl (q_fieldAddr (a := a3) (off := 3) rfl Tryz.underlying42 rfl rfl ok2 (by decide) rfl) ?_
            obtain ⟨x27, hx27, h⟩ := h
            refine rv 43 rfl rfl rfl (q_load (T := (tInt .i64)) (u := x27) (a := (a3.add 3)) rfl ok2 rfl hx27) ?_
            refine ro_wp rfl (.free rfl) (wp_cl (d := (some 44)) rfl (q_call (k := 19) (l := [.pointer (v_1), .int .i64 (x27)]) rfl ent19 rfl) h ?_)
            intro r29 w28 h
            refine rv 4 rfl rfl rfl (q_assign (v := .int .i64 (r29)) rfl rfl) ?_
            refine ro_nil ?_
            refine wp_ret ?_
            exact ret_ok rfl (.cons (.tmp (v := .int .i64 (r29)) rfl) .nil) ⟨r29, rfl, h⟩
          · refine wp_seq ?_
            refine wp_text [0, 1] rfl ?_
            refine rv 46 rfl rfl rfl (q_eql (a := x5) (b := (5 : Int)) rfl rfl rfl) ?_
            refine rv 45 rfl rfl rfl (q_assign (v := .bool ((x5 == (5 : Int)))) rfl rfl) ?_
            refine ro_nil ?_
            refine wp_if (b := (x5 == (5 : Int))) rfl h (fun hb33 h => ?_) (fun hb33 h => ?_)
            · refine wp_seq ?_
              refine wp_text [0, 1, 2, 3, 4] rfl ?_
              refine rv 47 rfl rfl rfl (q_move (v := .pointer (v_1)) rfl rfl) ?_
              refine rv 48 rfl rfl rfl (q_fieldAddr (a := a3) (off := 3) rfl Tryz.underlying42 rfl rfl ok2 (by decide) rfl) ?_
              obtain ⟨x30, hx30, h⟩ := h
              refine rv 49 rfl rfl rfl (q_load (T := (tInt .i64)) (u := x30) (a := (a3.add 3)) rfl ok2 rfl hx30) ?_
              refine ro_wp rfl (.free rfl) (wp_cl (d := (some 50)) rfl (q_call (k := 25) (l := [.pointer (v_1), .int .i64 (x30)]) rfl ent25 rfl) h ?_)
              intro r32 w31 h
              refine rv 4 rfl rfl rfl (q_assign (v := .int .i64 (r32)) rfl rfl) ?_
              refine ro_nil ?_
              refine wp_ret ?_
              exact ret_ok rfl (.cons (.tmp (v := .int .i64 (r32)) rfl) .nil) ⟨r32, rfl, h⟩
            · refine wp_skip ?_
              refine wp_seq ?_
              refine wp_text [0] rfl ?_
              refine rv 4 rfl rfl rfl (q_assign (v := .int .i64 ((0 : Int))) rfl rfl) ?_
              refine ro_nil ?_
              refine wp_ret ?_
              exact ret_ok rfl (.cons (.tmp (v := .int .i64 ((0 : Int))) rfl) .nil) ⟨(0 : Int), rfl, h⟩
def F13 (p_1 : S29) (w : World) (R : Int → World → Prop) : Prop :=
  nw 30 T29 p_1 w fun a2 w3 =>
  ex (RdAt tPtr (a2.add 0) w3) fun x4 =>
  cl Tryz.prog 29 [.pointer (x4)] (tInt .i64) w3 fun r6 w5 =>
  R r6 w5
theorem F13_ok {p_1 : S29} {w : World} {R : Int → World → Prop} (h : F13 p_1 w R) : cl Tryz.prog 13 [T29.enc (p_1)] (tInt .i64) w R := by
  unfold F13 at h
  refine calls_start 6 Tryz.func13 rfl rfl (Nat.le_of_ble_eq_true rfl) ?_
  refine wp_seq ?_
  refine wp_text [0, 1] rfl ?_
  obtain ⟨a2, w3, ha2, hw3, h⟩ := nw_open h
  refine rv 1 rfl rfl rfl (q_box (u := p_1) rfl ok30 rfl ha2 hw3) ?_
  refine rv 2 rfl rfl rfl (q_assign (v := .int .i64 ((0 : Int))) rfl rfl) ?_
  refine ro_nil ?_
  refine wp_seq ?_
  refine wp_text [0, 1, 2, 3] rfl ?_
  refine rv 3 rfl rfl rfl (q_fieldAddr (a := a2) (off := 0) rfl Tryz.underlying30 rfl rfl ok28 (by decide) rfl) ?_
  obtain ⟨x4, hx4, h⟩ := h
  refine rv 4 rfl rfl rfl (q_load (T := tPtr) (u := x4) (a := (a2.add 0)) rfl ok28 rfl hx4) ?_
  refine ro_wp rfl (.free rfl) (wp_cl (d := (some 5)) rfl (q_call (k := 29) (l := [.pointer (x4)]) rfl ent29 rfl) h ?_)
  intro r6 w5 h
  refine rv 2 rfl rfl rfl (q_assign (v := .int .i64 (r6)) rfl rfl) ?_
  refine ro_nil ?_
  refine wp_ret ?_
  exact ret_ok rfl (.cons (.tmp (v := .int .i64 (r6)) rfl) .nil) ⟨r6, rfl, h⟩
def F14 (v_1 : (Option Addr)) (id_2 : Int) (w : World) (R : (Int × Int) → World → Prop) : Prop :=
  ex (NC v_1) fun a3 =>
  ex (RdAt tMap (a3.add 5) w) fun x4 =>
  ex (MapGet T69 .i64 x4 id_2 w) fun m5 =>
  nw 70 T69 Z69 w fun a6 w7 =>
  st T69 a6 (m5.getD Z69) w7 fun w8 =>
  dr w8 fun w9 =>
  ex (RdAt (tInt .i64) (a6.add 0) w9) fun x10 =>
  ex (RdAt (tInt .i64) (a6.add 1) w9) fun x11 =>
  R (x10, x11) w9
theorem F14_ok {v_1 : (Option Addr)} {id_2 : Int} {w : World} {R : (Int × Int) → World → Prop} (h : F14 v_1 id_2 w R) : cl Tryz.prog 14 [.pointer (v_1), .int .i64 (id_2)] (tTup2 (tInt .i64) (tInt .i64)) w R := by
  unfold F14 at h
  refine calls_start 17 Tryz.func14 rfl rfl (Nat.le_of_ble_eq_true rfl) ?_
  refine wp_seq ?_
  refine wp_text [0, 1] rfl ?_
  refine rv 4 rfl rfl rfl (q_assign (v := .int .i64 ((0 : Int))) rfl rfl) ?_
  refine rv 5 rfl rfl rfl (q_assign (v := .int .i64 ((0 : Int))) rfl rfl) ?_
  refine ro_nil ?_
  refine wp_seq ?_
  refine wp_text [0, 1, 2, 3, 4, 5, 6, 7] rfl ?_
  refine rv 7 rfl rfl rfl (q_move (v := .pointer (v_1)) rfl rfl) ?_
  obtain ⟨a3, ha3, h⟩ := h
  refine rv 8 rfl rfl rfl (q_nilCheck (a := a3) rfl (congrArg Value.pointer ha3)) ?_
  refine rv 9 rfl rfl rfl (q_fieldAddr (a := a3) (off := 5) rfl Tryz.underlying35 rfl rfl ok33 (by decide) rfl) ?_
  obtain ⟨x4, hx4, h⟩ := h
  refine rv 10 rfl rfl rfl (q_load (T := tMap) (u := x4) (a := (a3.add 5)) rfl ok33 rfl hx4) ?_
  refine rv 11 rfl rfl rfl (q_move (v := .int .i64 (id_2)) rfl rfl) ?_
  obtain ⟨m5, hm5, h⟩ := h
  refine rv 12 rfl rfl rfl (q_lookup (T := T69) (r := x4) (key := id_2) (u := m5) (z := Z69) rfl Tryz.underlying33 Tryz.underlying3 (inf70) rfl rfl hm5) ?_
  obtain ⟨a6, w7, ha6, hw7, h⟩ := nw_open h
  refine rv 6 rfl rfl rfl (q_alloc (u := Z69) rfl ok70 inf70 ha6 hw7) ?_
  obtain ⟨w8, hw8, hrw8, h⟩ := st_open h
  refine ro_skip (d := none) rfl (.free rfl) rfl (q_store (T := T69) (u := (m5.getD Z69)) (a := a6) rfl ok70 rfl rfl hrw8 hw8) ?_
  refine ro_nil ?_
  refine wp_seq ?_
  obtain ⟨w9, hw9, h⟩ := dr_open h
  refine wp_drawn 6 mixed rfl (by kernel_rfl) (by intro c a d v w h; cases d <;> exact h) hw9 (fun hD => ?_)
  refine rp 0 13 hD rfl rfl rfl (fun _ => q_fieldAddr (a := a6) (off := 0) rfl Tryz.underlying70 rfl rfl ok45 (by decide) rfl) ?_
  refine rp 2 15 hD rfl rfl rfl (fun _ => q_fieldAddr (a := a6) (off := 1) rfl Tryz.underlying70 rfl rfl ok2 (by decide) rfl) ?_
  obtain ⟨x10, hx10, h⟩ := h
  refine rd_read (i := 1) (d := (some 14)) (fun W => (RdAt (tInt .i64) (a6.add 0) W) x10) hD (by kernel_rfl) (by kernel_rfl) rfl (.free rfl) rfl (fun W hr => q_load (T := (tInt .i64)) (u := x10) (a := (a6.add 0)) rfl ok45 rfl hr) hx10 ?_
  refine rp 4 4 hD rfl rfl rfl (fun _ => q_assign (v := .int .i64 (x10)) rfl rfl) ?_
  obtain ⟨x11, hx11, h⟩ := h
  refine rd_read (i := 3) (d := (some 16)) (fun W => (RdAt (tInt .i64) (a6.add 1) W) x11) hD (by kernel_rfl) (by kernel_rfl) rfl (.free rfl) rfl (fun W hr => q_load (T := (tInt .i64)) (u := x11) (a := (a6.add 1)) rfl ok2 rfl hr) hx11 ?_
  refine rp 5 5 hD rfl rfl rfl (fun _ => q_assign (v := .int .i64 (x11)) rfl rfl) ?_
  refine rd_nil (by kernel_rfl) ?_
  refine wp_ret ?_
  exact ret_ok rfl (.cons (.tmp (v := .int .i64 (x10)) rfl) (.cons (.tmp (v := .int .i64 (x11)) rfl) .nil)) ⟨(x10, x11), rfl, h⟩
def F15 (v_1 : (Option Addr)) (t_2 : Int) (id_3 : Int) (w : World) (R : Int → World → Prop) : Prop :=
  if ((decide (t_2 < (1 : Int))) || (decide (t_2 > (1125899906842624 : Int)))) = true then (
    R (151 : Int) w
  ) else (
    ex (NC v_1) fun a4 =>
    ex (RdAt tMap (a4.add 5) w) fun x5 =>
    ex (MapGet T69 .i64 x5 id_3 w) fun m6 =>
    nw 70 T69 Z69 w fun a7 w8 =>
    st T69 a7 (m6.getD Z69) w8 fun w9 =>
    ex (RdAt (tInt .i64) (a7.add 0) w9) fun x10 =>
    if (x10 == (2 : Int)) = true then (
      ex (RdAt (tInt .i64) (a7.add 1) w9) fun x11 =>
      if (x11 != t_2) = true then (
        R (157 : Int) w9
      ) else (
        R (0 : Int) w9
      )
    ) else (
      if (x10 == (1 : Int)) = true then (
        ex (RdAt tMap (a4.add 3) w9) fun x13 =>
        ex (MapGet T54 .i64 x13 id_3 w9) fun m14 =>
        nw 55 T54 Z54 w9 fun a15 w16 =>
        st T54 a15 (m14.getD Z54) w16 fun w17 =>
        ex (RdAt (tInt .i64) (a15.add 4) w17) fun x18 =>
        if (decide (t_2 < x18)) = true then (
          R (152 : Int) w17
        ) else (
          dr w17 fun w19 =>
          ex (RdAt tPtr ((a4.add 0).add 0) w19) fun x20 =>
          ex (RdAt T54 a15 w19) fun x21 =>
          cl Tryz.prog 31 [.pointer (v_1), T54.enc (x21)] tSlc w19 fun r23 w22 =>
          kp ((RdAt tPtr ((a4.add 0).add 0) w22) x20) <|
          cl Tryz.prog 30 [.pointer (x20), .int .i64 (t_2), tSlc.enc (r23)] (tInt .i64) w22 fun r26 w25 =>
          kp ((RdAt T54 a15 w25) x21) <|
          ex (RdAt T54 a15 w25) fun x28 =>
          cl Tryz.prog 32 [.pointer (v_1), T54.enc (x28)] tUnit w25 fun r30 w29 =>
          ex (RdAt tMap (a4.add 5) w29) fun x31 =>
          mput T69 .i64 x31 id_3 (⟨(2 : Int), t_2⟩ : S69) w29 fun w32 =>
          cl Tryz.prog 33 [.pointer (v_1), .int .i64 (t_2)] tUnit w32 fun r34 w33 =>
          R (0 : Int) w33
        )
      ) else (
        R (163 : Int) w9
      )
    )
  )
theorem F15_ok {v_1 : (Option Addr)} {t_2 : Int} {id_3 : Int} {w : World} {R : Int → World → Prop} (h : F15 v_1 t_2 id_3 w R) : cl Tryz.prog 15 [.pointer (v_1), .int .i64 (t_2), .int .i64 (id_3)] (tInt .i64) w R := by
  unfold F15 at h
  refine calls_start 64 Tryz.func15 rfl rfl (Nat.le_of_ble_eq_true rfl) ?_
  refine wp_seq ?_
  refine wp_text [0] rfl ?_
  refine rv 6 rfl rfl rfl (q_assign (v := .int .i64 ((0 : Int))) rfl rfl) ?_
  refine ro_nil ?_
  refine wp_seq ?_
  refine wp_seq ?_
  refine wp_text [0, 1, 2, 3, 4, 5] rfl ?_
  refine rv 9 rfl rfl rfl (q_move (v := .int .i64 (t_2)) rfl rfl) ?_
  refine rv 10 rfl rfl rfl (q_lss (a := t_2) (b := (1 : Int)) rfl rfl rfl) ?_
  refine rv 11 rfl rfl rfl (q_move (v := .bool ((decide (t_2 < (1 : Int))))) rfl rfl) ?_
  refine ro_gval (g := (!(decide (t_2 < (1 : Int))))) (d := (some 12)) rfl (.no 2 11 true (decide (t_2 < (1 : Int))) rfl rfl rfl rfl) rfl (fun hg => q_move (v := .int .i64 (t_2)) rfl rfl) ?_
  refine ro_gval (g := (!(decide (t_2 < (1 : Int))))) (d := (some 13)) rfl (.no 2 11 true (decide (t_2 < (1 : Int))) rfl rfl rfl rfl) rfl (fun hg => q_gtr (k := .i64) (a := t_2) (b := (1125899906842624 : Int)) rfl (gvb_yes hg) rfl) ?_
  refine rv 14 rfl rfl rfl (q_pickGF (a := (decide (t_2 < (1 : Int)))) (c := (decide (t_2 > (1125899906842624 : Int)))) rfl rfl rfl rfl) ?_
  refine ro_nil ?_
  refine wp_if (b := ((decide (t_2 < (1 : Int))) || (decide (t_2 > (1125899906842624 : Int))))) rfl h (fun hb38 h => ?_) (fun hb38 h => ?_)
  · refine wp_seq ?_
    refine wp_text [0] rfl ?_
    refine rv 6 rfl rfl rfl (q_assign (v := .int .i64 ((151 : Int))) rfl rfl) ?_
    refine ro_nil ?_
    refine wp_ret ?_
    exact ret_ok rfl (.cons (.tmp (v := .int .i64 ((151 : Int))) rfl) .nil) ⟨(151 : Int), rfl, h⟩
  · refine wp_skip ?_
    refine wp_seq ?_
    refine wp_text [0, 1, 2, 3, 4, 5, 6, 7] rfl ?_
    refine rv 15 rfl rfl rfl (q_move (v := .pointer (v_1)) rfl rfl) ?_
    obtain ⟨a4, ha4, h⟩ := h
    refine rv 16 rfl rfl rfl (q_nilCheck (a := a4) rfl (congrArg Value.pointer ha4)) ?_
    refine rv 17 rfl rfl rfl (q_fieldAddr (a := a4) (off := 5) rfl Tryz.underlying35 rfl rfl ok33 (by decide) rfl) ?_
    obtain ⟨x5, hx5, h⟩ := h
    refine rv 18 rfl rfl rfl (q_load (T := tMap) (u := x5) (a := (a4.add 5)) rfl ok33 rfl hx5) ?_
    refine rv 19 rfl rfl rfl (q_move (v := .int .i64 (id_3)) rfl rfl) ?_
    obtain ⟨m6, hm6, h⟩ := h
    refine rv 20 rfl rfl rfl (q_lookup (T := T69) (r := x5) (key := id_3) (u := m6) (z := Z69) rfl Tryz.underlying33 Tryz.underlying3 (inf70) rfl rfl hm6) ?_
    obtain ⟨a7, w8, ha7, hw8, h⟩ := nw_open h
    refine rv 7 rfl rfl rfl (q_alloc (u := Z69) rfl ok70 inf70 ha7 hw8) ?_
    obtain ⟨w9, hw9, hrw9, h⟩ := st_open h
    refine ro_skip (d := none) rfl (.free rfl) rfl (q_store (T := T69) (u := (m6.getD Z69)) (a := a7) rfl ok70 rfl rfl hrw9 hw9) ?_
    refine ro_nil ?_
    refine wp_seq ?_
    refine wp_seq ?_
    refine wp_text [0, 1] rfl ?_
    refine rv 21 rfl rfl rfl (q_fieldAddr (a := a7) (off := 0) rfl Tryz.underlying70 rfl rfl ok45 (by decide) rfl) ?_
    obtain ⟨x10, hx10, h⟩ := h
    refine rv 22 rfl rfl rfl (q_load (T := (tInt .i64)) (u := x10) (a := (a7.add 0)) rfl ok45 rfl hx10) ?_
    refine ro_nil ?_
    refine wp_block ?_
    refine wp_seq ?_
    refine wp_text [0, 1] rfl ?_
    refine rv 24 rfl rfl rfl (q_eql (a := x10) (b := (2 : Int)) rfl rfl rfl) ?_
    refine rv 23 rfl rfl rfl (q_assign (v := .bool ((x10 == (2 : Int)))) rfl rfl) ?_
    refine ro_nil ?_
    refine wp_if (b := (x10 == (2 : Int))) rfl h (fun hb37 h => ?_) (fun hb37 h => ?_)
    · refine wp_seq ?_
      refine wp_seq ?_
      refine wp_text [0, 1, 2, 3] rfl ?_
      refine rv 25 rfl rfl rfl (q_fieldAddr (a := a7) (off := 1) rfl Tryz.underlying70 rfl rfl ok2 (by decide) rfl) ?_
      obtain ⟨x11, hx11, h⟩ := h
      refine rv 26 rfl rfl rfl (q_load (T := (tInt .i64)) (u := x11) (a := (a7.add 1)) rfl ok2 rfl hx11) ?_
      refine rv 27 rfl rfl rfl (q_move (v := .int .i64 (t_2)) rfl rfl) ?_
      refine rv 28 rfl rfl rfl (q_neq (a := x11) (b := t_2) rfl rfl rfl) ?_
      refine ro_nil ?_
      refine wp_if (b := (x11 != t_2)) rfl h (fun hb12 h => ?_) (fun hb12 h => ?_)
      · refine wp_seq ?_
        refine wp_text [0] rfl ?_
        refine rv 6 rfl rfl rfl (q_assign (v := .int .i64 ((157 : Int))) rfl rfl) ?_
        refine ro_nil ?_
        refine wp_ret ?_
        exact ret_ok rfl (.cons (.tmp (v := .int .i64 ((157 : Int))) rfl) .nil) ⟨(157 : Int), rfl, h⟩
      · refine wp_skip ?_
        refine wp_seq ?_
        refine wp_text [0] rfl ?_
        refine rv 6 rfl rfl rfl (q_assign (v := .int .i64 ((0 : Int))) rfl rfl) ?_
        refine ro_nil ?_
        refine wp_ret ?_
        exact ret_ok rfl (.cons (.tmp (v := .int .i64 ((0 : Int))) rfl) .nil) ⟨(0 : Int), rfl, h⟩
    · refine wp_seq ?_
      refine wp_text [0, 1] rfl ?_
      refine rv 30 rfl rfl rfl (q_eql (a := x10) (b := (1 : Int)) rfl rfl rfl) ?_
      refine rv 29 rfl rfl rfl (q_assign (v := .bool ((x10 == (1 : Int)))) rfl rfl) ?_
      refine ro_nil ?_
      refine wp_if (b := (x10 == (1 : Int))) rfl h (fun hb36 h => ?_) (fun hb36 h => ?_)
      · refine wp_skip ?_
        refine wp_seq ?_
        refine wp_text [0, 1, 2, 3, 4, 5, 6, 7] rfl ?_
        refine rv 31 rfl rfl rfl (q_move (v := .pointer (v_1)) rfl rfl) ?_
        refine rv 32 rfl rfl rfl (q_nilCheck (a := a4) rfl (congrArg Value.pointer ha4)) ?_
        refine rv 33 rfl rfl rfl (q_fieldAddr (a := a4) (off := 3) rfl Tryz.underlying35 rfl rfl ok31 (by decide) rfl) ?_
        obtain ⟨x13, hx13, h⟩ := h
        refine rv 34 rfl rfl rfl (q_load (T := tMap) (u := x13) (a := (a4.add 3)) rfl ok31 rfl hx13) ?_
        refine rv 35 rfl rfl rfl (q_move (v := .int .i64 (id_3)) rfl rfl) ?_
        obtain ⟨m14, hm14, h⟩ := h
        refine rv 36 rfl rfl rfl (q_lookup (T := T54) (r := x13) (key := id_3) (u := m14) (z := Z54) rfl Tryz.underlying31 Tryz.underlying3 (inf55) rfl rfl hm14) ?_
        obtain ⟨a15, w16, ha15, hw16, h⟩ := nw_open h
        refine rv 8 rfl rfl rfl (q_alloc (u := Z54) rfl ok55 inf55 ha15 hw16) ?_
        obtain ⟨w17, hw17, hrw17, h⟩ := st_open h
        refine ro_skip (d := none) rfl (.free rfl) rfl (q_store (T := T54) (u := (m14.getD Z54)) (a := a15) rfl ok55 rfl rfl hrw17 hw17) ?_
        refine ro_nil ?_
        refine wp_seq ?_
        refine wp_seq ?_
        refine wp_text [0, 1, 2, 3] rfl ?_
        refine rv 37 rfl rfl rfl (q_move (v := .int .i64 (t_2)) rfl rfl) ?_
        refine rv 38 rfl rfl rfl (q_fieldAddr (a := a15) (off := 4) rfl Tryz.underlying55 rfl rfl ok2 (by decide) rfl) ?_
        obtain ⟨x18, hx18, h⟩ := h
        refine rv 39 rfl rfl rfl (q_load (T := (tInt .i64)) (u := x18) (a := (a15.add 4)) rfl ok2 rfl hx18) ?_
        refine rv 40 rfl rfl rfl (q_lss (a := t_2) (b := x18) rfl rfl rfl) ?_
        refine ro_nil ?_
        refine wp_if (b := (decide (t_2 < x18))) rfl h (fun hb35 h => ?_) (fun hb35 h => ?_)
        · refine wp_seq ?_
          refine wp_text [0] rfl ?_
          refine rv 6 rfl rfl rfl (q_assign (v := .int .i64 ((152 : Int))) rfl rfl) ?_
          refine ro_nil ?_
          refine wp_ret ?_
          exact ret_ok rfl (.cons (.tmp (v := .int .i64 ((152 : Int))) rfl) .nil) ⟨(152 : Int), rfl, h⟩
        · refine wp_skip ?_
          refine wp_seq ?_
          obtain ⟨w19, hw19, h⟩ := dr_open h
          refine wp_drawn 10 mixed rfl (by kernel_rfl) (by intro c a d v w h; cases d <;> exact h) hw19 (fun hD => ?_)
          refine rp 0 41 hD rfl rfl rfl (fun _ => q_move (v := .pointer (v_1)) rfl rfl) ?_
          refine rp 1 42 hD rfl rfl rfl (fun _ => q_nilCheck (a := a4) rfl (congrArg Value.pointer ha4)) ?_
          refine rp 2 43 hD rfl rfl rfl (fun _ => q_fieldAddr (a := a4) (off := 0) rfl Tryz.underlying35 rfl rfl ok30 (by decide) rfl) ?_
          refine rp 3 44 hD rfl rfl rfl (fun _ => q_fieldAddr (a := (a4.add 0)) (off := 0) rfl Tryz.underlying30 rfl rfl ok28 (by decide) rfl) ?_
          refine rp 5 46 hD rfl rfl rfl (fun _ => q_move (v := .int .i64 (t_2)) rfl rfl) ?_
          refine rp 6 47 hD rfl rfl rfl (fun _ => q_move (v := .pointer (v_1)) rfl rfl) ?_
          obtain ⟨x20, hx20, h⟩ := h
          refine rd_read (i := 4) (d := (some 45)) (fun W => (RdAt tPtr ((a4.add 0).add 0) W) x20) hD (by kernel_rfl) (by kernel_rfl) rfl (.free rfl) rfl (fun W hr => q_load (T := tPtr) (u := x20) (a := ((a4.add 0).add 0)) rfl ok28 rfl hr) hx20 ?_
          obtain ⟨x21, hx21, h⟩ := h
          refine rd_read (i := 7) (d := (some 48)) (fun W => (RdAt T54 a15 W) x21) hD (by kernel_rfl) (by kernel_rfl) rfl (.free rfl) rfl (fun W hr => q_load (T := T54) (u := x21) (a := a15) rfl ok55 rfl hr) hx21 ?_
          refine rd_one (i := 8) (by kernel_rfl) ?_
          refine po_wp rfl (.free rfl) (wp_cl (d := (some 49)) rfl (q_call (k := 31) (l := [.pointer (v_1), T54.enc (x21)]) rfl ent31 rfl) h ?_)
          intro r23 w22 h
          obtain ⟨hk24, h⟩ := h
          refine ⟨(hk_wait (by kernel_rfl) (hk_keep (fun _ => hk24) hk_nil)), ?_⟩
          refine rd_one (i := 9) (by kernel_rfl) ?_
          refine po_wp rfl (.free rfl) (wp_cl (d := (some 50)) rfl (q_call (k := 30) (l := [.pointer (x20), .int .i64 (t_2), tSlc.enc (r23)]) rfl ent30 rfl) h ?_)
          intro r26 w25 h
          obtain ⟨hk27, h⟩ := h
          refine ⟨(hk_keep (fun _ => hk27) (hk_wait (by kernel_rfl) hk_nil)), ?_⟩
          refine rd_nil (by kernel_rfl) ?_
          refine wp_seq ?_
          refine wp_text [0, 1, 2] rfl ?_
          refine rv 51 rfl rfl rfl (q_move (v := .pointer (v_1)) rfl rfl) ?_
          obtain ⟨x28, hx28, h⟩ := h
          refine rv 52 rfl rfl rfl (q_load (T := T54) (u := x28) (a := a15) rfl ok55 rfl hx28) ?_
          refine ro_wp rfl (.free rfl) (wp_cl (d := (some 53)) rfl (q_call (k := 32) (l := [.pointer (v_1), T54.enc (x28)]) rfl ent32 rfl) h ?_)
          intro r30 w29 h
          refine ro_nil ?_
          refine wp_seq ?_
          refine wp_text [0, 1, 2, 3, 4, 5, 6, 7] rfl ?_
          refine rv 54 rfl rfl rfl (q_move (v := .pointer (v_1)) rfl rfl) ?_
          refine rv 55 rfl rfl rfl (q_nilCheck (a := a4) rfl (congrArg Value.pointer ha4)) ?_
          refine rv 56 rfl rfl rfl (q_fieldAddr (a := a4) (off := 5) rfl Tryz.underlying35 rfl rfl ok33 (by decide) rfl) ?_
          obtain ⟨x31, hx31, h⟩ := h
          refine rv 57 rfl rfl rfl (q_load (T := tMap) (u := x31) (a := (a4.add 5)) rfl ok33 rfl hx31) ?_
          refine rv 58 rfl rfl rfl (q_move (v := .int .i64 (id_3)) rfl rfl) ?_
          refine rv 59 rfl rfl rfl (q_move (v := .int .i64 (t_2)) rfl rfl) ?_
          refine rv 60 rfl rfl rfl (q_build70_0_1 (v0 := (2 : Int)) (v1 := t_2) rfl rfl rfl) ?_
          refine ro_wp rfl (.free rfl) (wp_mput (T := T69) (r := x31) (key := id_3) (v := (⟨(2 : Int), t_2⟩ : S69)) (d := none) rfl (.inl rfl) Tryz.underlying33 Tryz.underlying3 rfl rfl rfl h ?_)
          intro w32 h
          refine ro_nil ?_
          refine wp_seq ?_
          refine wp_text [0, 1, 2] rfl ?_
          refine rv 61 rfl rfl rfl (q_move (v := .pointer (v_1)) rfl rfl) ?_
          refine rv 62 rfl rfl rfl (q_move (v := .int .i64 (t_2)) rfl rfl) ?_
          refine ro_wp rfl (.free rfl) (wp_cl (d := (some 63)) rfl (q_call (k := 33) (l := [.pointer (v_1), .int .i64 (t_2)]) rfl ent33 rfl) h ?_)
          intro r34 w33 h
          refine ro_nil ?_
          refine wp_seq ?_
          refine wp_text [0] rfl ?_
          refine rv 6 rfl rfl rfl (q_assign (v := .int .i64 ((0 : Int))) rfl rfl) ?_
          refine ro_nil ?_
          refine wp_ret ?_
          exact ret_ok rfl (.cons (.tmp (v := .int .i64 ((0 : Int))) rfl) .nil) ⟨(0 : Int), rfl, h⟩
      · refine wp_seq ?_
        refine wp_text [0] rfl ?_
        refine rv 6 rfl rfl rfl (q_assign (v := .int .i64 ((163 : Int))) rfl rfl) ?_
        refine ro_nil ?_
        refine wp_ret ?_
        exact ret_ok rfl (.cons (.tmp (v := .int .i64 ((163 : Int))) rfl) .nil) ⟨(163 : Int), rfl, h⟩
def F16_j1 (id_2 : Int) (a3 : Addr) (w13 : World) (R : Int → World → Prop) : Prop :=
  ex (RdAt tMap (a3.add 5) w13) fun x14 =>
  mput T69 .i64 x14 id_2 (⟨(3 : Int), (0 : Int)⟩ : S69) w13 fun w15 =>
  R (0 : Int) w15
def F16 (v_1 : (Option Addr)) (id_2 : Int) (w : World) (R : Int → World → Prop) : Prop :=
  ex (NC v_1) fun a3 =>
  ex (RdAt tMap (a3.add 5) w) fun x4 =>
  ex (MapGet T69 .i64 x4 id_2 w) fun m5 =>
  nw 70 T69 Z69 w fun a6 w7 =>
  st T69 a6 (((m5.getD Z69, m5.isSome)).1) w7 fun w8 =>
  if (decide (id_2 < (1 : Int))) = true then (
    R (156 : Int) w8
  ) else (
    ex (RdAt (tInt .i64) (a6.add 0) w8) fun x9 =>
    if (x9 == (2 : Int)) = true then (
      R (157 : Int) w8
    ) else (
      ex (fun x => (!(((m5.getD Z69, m5.isSome)).2)) = true → (NC v_1) x) fun a10 =>
      ex (fun x => (!(((m5.getD Z69, m5.isSome)).2)) = true → (RdAt tMap (a10.add 5) w8) x) fun x11 =>
      ex (fun x => (!(((m5.getD Z69, m5.isSome)).2)) = true → (MapLen x11 w8) x) fun l12 =>
      if ((!(((m5.getD Z69, m5.isSome)).2)) && (decide ((l12 : Int) ≥ (5000 : Int)))) = true then (
        R (158 : Int) w8
      ) else (
        ex (RdAt tMap (a3.add 3) w8) fun x16 =>
        ex (MapGet T54 .i64 x16 id_2 w8) fun m17 =>
        nw 55 T54 Z54 w8 fun a18 w19 =>
        st T54 a18 (((m17.getD Z54, m17.isSome)).1) w19 fun w20 =>
        if ((m17.getD Z54, m17.isSome)).2 = true then (
          ex (RdAt T54 a18 w20) fun x21 =>
          cl Tryz.prog 32 [.pointer (v_1), T54.enc (x21)] tUnit w20 fun r23 w22 =>
          F16_j1 id_2 a3 w22 R
        ) else (
          F16_j1 id_2 a3 w20 R
        )
      )
    )
  )
theorem F16_ok {v_1 : (Option Addr)} {id_2 : Int} {w : World} {R : Int → World → Prop} (h : F16 v_1 id_2 w R) : cl Tryz.prog 16 [.pointer (v_1), .int .i64 (id_2)] (tInt .i64) w R := by
  unfold F16 at h
  refine calls_start 55 Tryz.func16 rfl rfl (Nat.le_of_ble_eq_true rfl) ?_
  refine wp_seq ?_
  refine wp_text [0] rfl ?_
  refine rv 4 rfl rfl rfl (q_assign (v := .int .i64 ((0 : Int))) rfl rfl) ?_
  refine ro_nil ?_
  refine wp_seq ?_
  refine wp_text [0, 1, 2, 3, 4, 5, 6, 7, 8, 9, 10, 11] rfl ?_
  refine rv 10 rfl rfl rfl (q_move (v := .pointer (v_1)) rfl rfl) ?_
  obtain ⟨a3, ha3, h⟩ := h
  refine rv 11 rfl rfl rfl (q_nilCheck (a := a3) rfl (congrArg Value.pointer ha3)) ?_
  refine rv 12 rfl rfl rfl (q_fieldAddr (a := a3) (off := 5) rfl Tryz.underlying35 rfl rfl ok33 (by decide) rfl) ?_
  obtain ⟨x4, hx4, h⟩ := h
  refine rv 13 rfl rfl rfl (q_load (T := tMap) (u := x4) (a := (a3.add 5)) rfl ok33 rfl hx4) ?_
  refine rv 14 rfl rfl rfl (q_move (v := .int .i64 (id_2)) rfl rfl) ?_
  obtain ⟨m5, hm5, h⟩ := h
  refine rv 15 rfl rfl rfl (q_lookup2 (T := T69) (r := x4) (key := id_2) (u := m5) (z := Z69) rfl Tryz.underlying33 Tryz.underlying3 (inf70) rfl rfl hm5) ?_
  refine rv 9 rfl rfl rfl (q_move (v := (tTup2 T69 tBool).enc (((m5.getD Z69, m5.isSome)))) rfl rfl) ?_
  refine rv 16 rfl rfl rfl (q_extract (vs := #[T69.enc (((m5.getD Z69, m5.isSome)).1), .bool (((m5.getD Z69, m5.isSome)).2)]) (v := T69.enc (((m5.getD Z69, m5.isSome)).1)) rfl rfl rfl) ?_
  refine rv 17 rfl rfl rfl (q_extract (vs := #[T69.enc (((m5.getD Z69, m5.isSome)).1), .bool (((m5.getD Z69, m5.isSome)).2)]) (v := .bool (((m5.getD Z69, m5.isSome)).2)) rfl rfl rfl) ?_
  obtain ⟨a6, w7, ha6, hw7, h⟩ := nw_open h
  refine rv 5 rfl rfl rfl (q_alloc (u := Z69) rfl ok70 inf70 ha6 hw7) ?_
  obtain ⟨w8, hw8, hrw8, h⟩ := st_open h
  refine ro_skip (d := none) rfl (.free rfl) rfl (q_store (T := T69) (u := ((m5.getD Z69, m5.isSome)).1) (a := a6) rfl ok70 rfl rfl hrw8 hw8) ?_
  refine rv 6 rfl rfl rfl (q_assign (v := .bool (((m5.getD Z69, m5.isSome)).2)) rfl rfl) ?_
  refine ro_nil ?_
  refine wp_seq ?_
  refine wp_block ?_
  refine wp_seq ?_
  refine wp_text [0, 1, 2] rfl ?_
  refine rv 19 rfl rfl rfl (q_move (v := .int .i64 (id_2)) rfl rfl) ?_
  refine rv 20 rfl rfl rfl (q_lss (a := id_2) (b := (1 : Int)) rfl rfl rfl) ?_
  refine rv 18 rfl rfl rfl (q_assign (v := .bool ((decide (id_2 < (1 : Int))))) rfl rfl) ?_
  refine ro_nil ?_
  refine wp_if (b := (decide (id_2 < (1 : Int)))) rfl h (fun hb27 h => ?_) (fun hb27 h => ?_)
  · refine wp_seq ?_
    refine wp_text [0] rfl ?_
    refine rv 4 rfl rfl rfl (q_assign (v := .int .i64 ((156 : Int))) rfl rfl) ?_
    refine ro_nil ?_
    refine wp_ret ?_
    exact ret_ok rfl (.cons (.tmp (v := .int .i64 ((156 : Int))) rfl) .nil) ⟨(156 : Int), rfl, h⟩
  · refine wp_seq ?_
    refine wp_text [0, 1, 2, 3] rfl ?_
    refine rv 22 rfl rfl rfl (q_fieldAddr (a := a6) (off := 0) rfl Tryz.underlying70 rfl rfl ok45 (by decide) rfl) ?_
    obtain ⟨x9, hx9, h⟩ := h
    refine rv 23 rfl rfl rfl (q_load (T := (tInt .i64)) (u := x9) (a := (a6.add 0)) rfl ok45 rfl hx9) ?_
    refine rv 24 rfl rfl rfl (q_eql (a := x9) (b := (2 : Int)) rfl rfl rfl) ?_
    refine rv 21 rfl rfl rfl (q_assign (v := .bool ((x9 == (2 : Int)))) rfl rfl) ?_
    refine ro_nil ?_
    refine wp_if (b := (x9 == (2 : Int))) rfl h (fun hb26 h => ?_) (fun hb26 h => ?_)
    · refine wp_seq ?_
      refine wp_text [0] rfl ?_
      refine rv 4 rfl rfl rfl (q_assign (v := .int .i64 ((157 : Int))) rfl rfl) ?_
      refine ro_nil ?_
      refine wp_ret ?_
      exact ret_ok rfl (.cons (.tmp (v := .int .i64 ((157 : Int))) rfl) .nil) ⟨(157 : Int), rfl, h⟩
    · refine wp_seq ?_
      refine wp_text [0, 1, 2, 3, 4, 5, 6, 7, 8, 9, 10] rfl ?_
      refine rv 26 rfl rfl rfl (q_move (v := .bool (((m5.getD Z69, m5.isSome)).2)) rfl rfl) ?_
      refine rv 27 rfl rfl rfl (q_not (b := ((m5.getD Z69, m5.isSome)).2) rfl rfl) ?_
      refine rv 28 rfl rfl rfl (q_move (v := .bool ((!(((m5.getD Z69, m5.isSome)).2)))) rfl rfl) ?_
      refine ro_gval (g := (!(((m5.getD Z69, m5.isSome)).2))) (d := (some 29)) rfl (.yes 2 28 true (!(((m5.getD Z69, m5.isSome)).2)) rfl rfl rfl rfl) rfl (fun hg => q_move (v := .pointer (v_1)) rfl rfl) ?_
      obtain ⟨a10, ha10, h⟩ := h
      refine ro_gval (g := (!(((m5.getD Z69, m5.isSome)).2))) (d := (some 30)) rfl (.yes 2 28 true (!(((m5.getD Z69, m5.isSome)).2)) rfl rfl rfl rfl) rfl (fun hg => q_nilCheck (a := a10) rfl ((gvb_yes hg).trans (congrArg Value.pointer (ha10 hg)))) ?_
      refine ro_gval (g := (!(((m5.getD Z69, m5.isSome)).2))) (d := (some 31)) rfl (.yes 2 28 true (!(((m5.getD Z69, m5.isSome)).2)) rfl rfl rfl rfl) rfl (fun hg => q_fieldAddr (a := a10) (off := 5) rfl Tryz.underlying35 rfl rfl ok33 (by decide) (gvb_yes hg)) ?_
      obtain ⟨x11, hx11, h⟩ := h
      refine ro_gval (g := (!(((m5.getD Z69, m5.isSome)).2))) (d := (some 32)) rfl (.yes 2 28 true (!(((m5.getD Z69, m5.isSome)).2)) rfl rfl rfl rfl) rfl (fun hg => q_load (T := tMap) (u := x11) (a := (a10.add 5)) rfl ok33 (gvb_yes hg) (hx11 hg)) ?_
      obtain ⟨l12, hl12, h⟩ := h
      refine ro_gval (g := (!(((m5.getD Z69, m5.isSome)).2))) (d := (some 33)) rfl (.yes 2 28 true (!(((m5.getD Z69, m5.isSome)).2)) rfl rfl rfl rfl) rfl (fun hg => q_lenM (r := x11) (l := l12) rfl Tryz.underlying33 (gvb_yes hg) (hl12 hg)) ?_
      refine ro_gval (g := (!(((m5.getD Z69, m5.isSome)).2))) (d := (some 34)) rfl (.yes 2 28 true (!(((m5.getD Z69, m5.isSome)).2)) rfl rfl rfl rfl) rfl (fun hg => q_geq (k := .i64) (a := (l12 : Int)) (b := (5000 : Int)) rfl (gvb_yes hg) rfl) ?_
      refine rv 35 rfl rfl rfl (q_pickGT (a := (!(((m5.getD Z69, m5.isSome)).2))) (b := (decide ((l12 : Int) ≥ (5000 : Int)))) rfl rfl rfl rfl) ?_
      refine rv 25 rfl rfl rfl (q_assign (v := .bool (((!(((m5.getD Z69, m5.isSome)).2)) && (decide ((l12 : Int) ≥ (5000 : Int)))))) rfl rfl) ?_
      refine ro_nil ?_
      refine wp_if (b := ((!(((m5.getD Z69, m5.isSome)).2)) && (decide ((l12 : Int) ≥ (5000 : Int))))) rfl h (fun hb25 h => ?_) (fun hb25 h => ?_)
      · refine wp_seq ?_
        refine wp_text [0] rfl ?_
        refine rv 4 rfl rfl rfl (q_assign (v := .int .i64 ((158 : Int))) rfl rfl) ?_
        refine ro_nil ?_
        refine wp_ret ?_
        exact ret_ok rfl (.cons (.tmp (v := .int .i64 ((158 : Int))) rfl) .nil) ⟨(158 : Int), rfl, h⟩
      · refine wp_skip ?_
        refine seq_join (σ := Unit) (J := fun (s : Unit) w => F16_j1 id_2 a3 w R) (fr := fun g (s : Unit) => upd (upd (g) 0 (.pointer (v_1))) 1 (.int .i64 (id_2))) ?_ ?_
        · rintro ⟨⟩ g w13 h
          unfold F16_j1 at h
          refine wp_seq ?_
          refine wp_text [0, 1, 2, 3, 4, 5, 6] rfl ?_
          refine rv 49 rfl rfl rfl (q_move (v := .pointer (v_1)) rfl rfl) ?_
          refine rv 50 rfl rfl rfl (q_nilCheck (a := a3) rfl (congrArg Value.pointer ha3)) ?_
          refine rv 51 rfl rfl rfl (q_fieldAddr (a := a3) (off := 5) rfl Tryz.underlying35 rfl rfl ok33 (by decide) rfl) ?_
          obtain ⟨x14, hx14, h⟩ := h
          refine rv 52 rfl rfl rfl (q_load (T := tMap) (u := x14) (a := (a3.add 5)) rfl ok33 rfl hx14) ?_
          refine rv 53 rfl rfl rfl (q_move (v := .int .i64 (id_2)) rfl rfl) ?_
          refine rv 54 rfl rfl rfl (q_build70_0 (v0 := (3 : Int)) rfl rfl) ?_
          refine ro_wp rfl (.free rfl) (wp_mput (T := T69) (r := x14) (key := id_2) (v := (⟨(3 : Int), (0 : Int)⟩ : S69)) (d := none) rfl (.inl rfl) Tryz.underlying33 Tryz.underlying3 rfl rfl rfl h ?_)
          intro w15 h
          refine ro_nil ?_
          refine wp_seq ?_
          refine wp_text [0] rfl ?_
          refine rv 4 rfl rfl rfl (q_assign (v := .int .i64 ((0 : Int))) rfl rfl) ?_
          refine ro_nil ?_
          refine wp_ret ?_
          exact ret_ok rfl (.cons (.tmp (v := .int .i64 ((0 : Int))) rfl) .nil) ⟨(0 : Int), rfl, h⟩
        · refine wp_seq ?_
          refine wp_text [0, 1, 2, 3, 4, 5, 6, 7, 8, 9, 10, 11] rfl ?_
          refine rv 37 rfl rfl rfl (q_move (v := .pointer (v_1)) rfl rfl) ?_
          refine rv 38 rfl rfl rfl (q_nilCheck (a := a3) rfl (congrArg Value.pointer ha3)) ?_
          refine rv 39 rfl rfl rfl (q_fieldAddr (a := a3) (off := 3) rfl Tryz.underlying35 rfl rfl ok31 (by decide) rfl) ?_
          obtain ⟨x16, hx16, h⟩ := h
          refine rv 40 rfl rfl rfl (q_load (T := tMap) (u := x16) (a := (a3.add 3)) rfl ok31 rfl hx16) ?_
          refine rv 41 rfl rfl rfl (q_move (v := .int .i64 (id_2)) rfl rfl) ?_
          obtain ⟨m17, hm17, h⟩ := h
          refine rv 42 rfl rfl rfl (q_lookup2 (T := T54) (r := x16) (key := id_2) (u := m17) (z := Z54) rfl Tryz.underlying31 Tryz.underlying3 (inf55) rfl rfl hm17) ?_
          refine rv 36 rfl rfl rfl (q_move (v := (tTup2 T54 tBool).enc (((m17.getD Z54, m17.isSome)))) rfl rfl) ?_
          refine rv 43 rfl rfl rfl (q_extract (vs := #[T54.enc (((m17.getD Z54, m17.isSome)).1), .bool (((m17.getD Z54, m17.isSome)).2)]) (v := T54.enc (((m17.getD Z54, m17.isSome)).1)) rfl rfl rfl) ?_
          refine rv 44 rfl rfl rfl (q_extract (vs := #[T54.enc (((m17.getD Z54, m17.isSome)).1), .bool (((m17.getD Z54, m17.isSome)).2)]) (v := .bool (((m17.getD Z54, m17.isSome)).2)) rfl rfl rfl) ?_
          obtain ⟨a18, w19, ha18, hw19, h⟩ := nw_open h
          refine rv 7 rfl rfl rfl (q_alloc (u := Z54) rfl ok55 inf55 ha18 hw19) ?_
          obtain ⟨w20, hw20, hrw20, h⟩ := st_open h
          refine ro_skip (d := none) rfl (.free rfl) rfl (q_store (T := T54) (u := ((m17.getD Z54, m17.isSome)).1) (a := a18) rfl ok55 rfl rfl hrw20 hw20) ?_
          refine rv 8 rfl rfl rfl (q_assign (v := .bool (((m17.getD Z54, m17.isSome)).2)) rfl rfl) ?_
          refine ro_nil ?_
          refine wp_seq ?_
          refine wp_text [0] rfl ?_
          refine rv 45 rfl rfl rfl (q_move (v := .bool (((m17.getD Z54, m17.isSome)).2)) rfl rfl) ?_
          refine ro_nil ?_
          refine wp_if (b := ((m17.getD Z54, m17.isSome)).2) rfl h (fun hb24 h => ?_) (fun hb24 h => ?_)
          · refine wp_text [0, 1, 2] rfl ?_
            refine rv 46 rfl rfl rfl (q_move (v := .pointer (v_1)) rfl rfl) ?_
            obtain ⟨x21, hx21, h⟩ := h
            refine rv 47 rfl rfl rfl (q_load (T := T54) (u := x21) (a := a18) rfl ok55 rfl hx21) ?_
            refine ro_wp rfl (.free rfl) (wp_cl (d := (some 48)) rfl (q_call (k := 32) (l := [.pointer (v_1), T54.enc (x21)]) rfl ent32 rfl) h ?_)
            intro r23 w22 h
            refine ro_nil ?_
            exact ⟨(), _, arr (upd_step (upd_step rfl rfl) rfl), h⟩
          · refine wp_skip ?_
            exact ⟨(), _, arr (upd_step (upd_step rfl rfl) rfl), h⟩
end Go.Proofs.YtpdaapffkdejoaaGreat.Cf
namespace Go.Proofs.YtpdaapffkdejoaaGreat.Cf
open Go
set_option maxRecDepth 100000
set_option maxHeartbeats 1000000
set_option linter.unusedVariables false
set_option linter.unusedSimpArgs false
def F17_l1 (a2 : Addr) (r7 : Slc) (l_8 : Slc) (t_9 : Int) (w10 : World) (K11 : Slc × Int → World → Prop) (R : Slc → World → Prop) : Prop :=
  if (decide (t_9 < (r7.len : Int))) = true then (
    ex (IxA r7 1 t_9) fun a12 =>
    ex (RdAt (tInt .i64) a12 w10) fun x13 =>
    ex (RdAt tMap (a2.add 3) w10) fun x14 =>
    ex (MapGet T54 .i64 x14 x13 w10) fun m15 =>
    apl 55 T54 6 48 l_8 [(m15.getD Z54)] w10 fun r19 w18 =>
    K11 (r19, (IntKind.i64.wrap (t_9 + (1 : Int)))) w18
  ) else (
    R l_8 w10
  )
def F17 (v_1 : (Option Addr)) (w : World) (R : Slc → World → Prop) : Prop :=
  ex (NC v_1) fun a2 =>
  ex (RdAt tMap (a2.add 3) w) fun x3 =>
  cl Tryz.prog 35 [.map (x3)] tFun w fun r5 w4 =>
  cl Tryz.prog 34 [(r5).enc] tSlc w4 fun r7 w6 =>
  lp (fun (s : Slc × Int) w K => F17_l1 a2 r7 s.1 s.2 w K R) ((⟨none, 0, 0⟩ : Slc), (0 : Int)) w6
theorem F17_ok {v_1 : (Option Addr)} {w : World} {R : Slc → World → Prop} (h : F17 v_1 w R) : cl Tryz.prog 17 [.pointer (v_1)] tSlc w R := by
  unfold F17 at h
  refine calls_start 28 Tryz.func17 rfl rfl (Nat.le_of_ble_eq_true rfl) ?_
  refine wp_seq ?_
  refine wp_text [0] rfl ?_
  refine rv 2 rfl rfl rfl (q_assign (v := tSlc.enc ((⟨none, 0, 0⟩ : Slc))) rfl rfl) ?_
  refine ro_nil ?_
  refine wp_seq ?_
  refine wp_text [0] rfl ?_
  refine rv 3 rfl rfl rfl (q_assign (v := tSlc.enc ((⟨none, 0, 0⟩ : Slc))) rfl rfl) ?_
  refine ro_nil ?_
  refine wp_seq ?_
  refine wp_seq ?_
  refine wp_text [0, 1, 2, 3, 4, 5, 6, 7] rfl ?_
  refine rv 6 rfl rfl rfl (q_move (v := .pointer (v_1)) rfl rfl) ?_
  obtain ⟨a2, ha2, h⟩ := h
  refine rv 7 rfl rfl rfl (q_nilCheck (a := a2) rfl (congrArg Value.pointer ha2)) ?_
  refine rv 8 rfl rfl rfl (q_fieldAddr (a := a2) (off := 3) rfl Tryz.underlying35 rfl rfl ok31 (by decide) rfl) ?_
  obtain ⟨x3, hx3, h⟩ := h
  refine rv 9 rfl rfl rfl (q_load (T := tMap) (u := x3) (a := (a2.add 3)) rfl ok31 rfl hx3) ?_
  refine ro_wp rfl (.free rfl) (wp_cl (d := (some 10)) rfl (q_call (k := 35) (l := [.map (x3)]) rfl ent35 rfl) h ?_)
  intro r5 w4 h
  refine ro_wp rfl (.free rfl) (wp_cl (d := (some 11)) rfl (q_call (k := 34) (l := [(r5).enc]) rfl ent34 rfl) h ?_)
  intro r7 w6 h
  refine rv 12 rfl rfl rfl (q_len (s := r7) rfl Tryz.underlying77 rfl) ?_
  refine rv 13 rfl rfl rfl (q_move (v := .int .i64 ((0 : Int))) rfl rfl) ?_
  refine ro_nil ?_
  refine wp_block ?_
  refine loop_at (σ := Slc × Int) (fr := fun g (s : Slc × Int) => upd (upd (upd (upd (upd (g) 0 (.pointer (v_1))) 11 (tSlc.enc (r7))) 12 (.int .i64 ((r7.len : Int)))) 3 (tSlc.enc (s.1))) 13 (.int .i64 (s.2))) (s0 := ((⟨none, 0, 0⟩ : Slc), (0 : Int))) (upd_step (upd_step (upd_step (upd_step (upd_step rfl rfl) rfl) rfl) rfl) rfl) h ?_
  rintro ⟨l_8, t_9⟩ g w10 K11 h
  unfold F17_l1 at h
  refine wp_seq ?_
  refine wp_text [0] rfl ?_
  refine rv 14 rfl rfl rfl (q_lss (a := t_9) (b := (r7.len : Int)) rfl rfl rfl) ?_
  refine ro_nil ?_
  refine wp_seq ?_
  refine wp_if (b := (decide (t_9 < (r7.len : Int)))) rfl h (fun hb20 h => ?_) (fun hb20 h => ?_)
  · refine wp_skip ?_
    refine wp_seq ?_
    refine wp_block ?_
    refine wp_seq ?_
    refine wp_text [0, 1, 2] rfl ?_
    obtain ⟨a12, ha12, h⟩ := h
    refine rv 15 rfl rfl rfl (q_indexAddr (s := r7) (k := .i64) (i := t_9) rfl Tryz.underlying77 ok3 rfl rfl ha12) ?_
    obtain ⟨x13, hx13, h⟩ := h
    refine rv 16 rfl rfl rfl (q_load (T := (tInt .i64)) (u := x13) (a := a12) rfl ok3 rfl hx13) ?_
    refine rv 5 rfl rfl rfl (q_assign (v := .int .i64 (x13)) rfl rfl) ?_
    refine ro_nil ?_
    refine wp_text [0, 1, 2, 3, 4, 5, 6, 7, 8, 9] rfl ?_
    refine rv 17 rfl rfl rfl (q_move (v := tSlc.enc (l_8)) rfl rfl) ?_
    refine rv 18 rfl rfl rfl (q_move (v := .pointer (v_1)) rfl rfl) ?_
    refine rv 19 rfl rfl rfl (q_nilCheck (a := a2) rfl (congrArg Value.pointer ha2)) ?_
    refine rv 20 rfl rfl rfl (q_fieldAddr (a := a2) (off := 3) rfl Tryz.underlying35 rfl rfl ok31 (by decide) rfl) ?_
    obtain ⟨x14, hx14, h⟩ := h
    refine rv 21 rfl rfl rfl (q_load (T := tMap) (u := x14) (a := (a2.add 3)) rfl ok31 rfl hx14) ?_
    refine rv 22 rfl rfl rfl (q_move (v := .int .i64 (x13)) rfl rfl) ?_
    obtain ⟨m15, hm15, h⟩ := h
    refine rv 23 rfl rfl rfl (q_lookup (T := T54) (r := x14) (key := x13) (u := m15) (z := Z54) rfl Tryz.underlying31 Tryz.underlying3 (inf55) rfl rfl hm15) ?_
    obtain ⟨a16, w17, ha16, hw17, h⟩ := apl_open h
    refine rv 24 rfl rfl rfl (q_rowOf (T := T54) (xs := [(m15.getD Z54)]) rfl Tryz.underlying50 ok55 inf55 rfl (by decide) (by decide) rfl ha16 hw17) ?_
    refine ro_wp rfl (.free rfl) (wp_append (d := (some 25)) (T := T54) rfl rfl Tryz.underlying50 ⟨_, Tryz.underlying50⟩ ok55 inf55 rfl rfl (Nat.lt_of_lt_of_le Nat.zero_lt_one (Nat.le_of_ble_eq_true rfl)) rfl rfl h ?_)
    intro r19 w18 h
    refine rv 3 rfl rfl rfl (q_assign (v := tSlc.enc (r19)) rfl rfl) ?_
    refine ro_nil ?_
    refine wp_text [0, 1] rfl ?_
    refine rv 26 rfl rfl rfl (q_add (a := t_9) (b := (1 : Int)) rfl rfl rfl) ?_
    refine rv 13 rfl rfl rfl (q_move (v := .int .i64 ((IntKind.i64.wrap (t_9 + (1 : Int))))) rfl rfl) ?_
    refine ro_nil ?_
    exact ⟨(r19, (IntKind.i64.wrap (t_9 + (1 : Int)))), _, arr (upd_step (upd_step (upd_step (upd_step (upd_step rfl rfl) rfl) rfl) rfl) rfl), h⟩
  · refine wp_exit ?_
    refine wp_seq ?_
    refine wp_text [0, 1] rfl ?_
    refine rv 27 rfl rfl rfl (q_move (v := tSlc.enc (l_8)) rfl rfl) ?_
    refine rv 2 rfl rfl rfl (q_assign (v := tSlc.enc (l_8)) rfl rfl) ?_
    refine ro_nil ?_
    refine wp_ret ?_
    exact ret_ok rfl (.cons (.tmp (v := tSlc.enc (l_8)) rfl) .nil) ⟨l_8, rfl, h⟩
def F18 (v_1 : (Option Addr)) (w : World) (R : Int → World → Prop) : Prop :=
  ex (NC v_1) fun a2 =>
  ex (RdAt (tInt .i64) (a2.add 2) w) fun x3 =>
  R x3 w
theorem F18_ok {v_1 : (Option Addr)} {w : World} {R : Int → World → Prop} (h : F18 v_1 w R) : cl Tryz.prog 18 [.pointer (v_1)] (tInt .i64) w R := by
  unfold F18 at h
  refine calls_start 7 Tryz.func18 rfl rfl (Nat.le_of_ble_eq_true rfl) ?_
  refine wp_seq ?_
  refine wp_text [0] rfl ?_
  refine rv 2 rfl rfl rfl (q_assign (v := .int .i64 ((0 : Int))) rfl rfl) ?_
  refine ro_nil ?_
  refine wp_seq ?_
  refine wp_text [0, 1, 2, 3, 4] rfl ?_
  refine rv 3 rfl rfl rfl (q_move (v := .pointer (v_1)) rfl rfl) ?_
  obtain ⟨a2, ha2, h⟩ := h
  refine rv 4 rfl rfl rfl (q_nilCheck (a := a2) rfl (congrArg Value.pointer ha2)) ?_
  refine rv 5 rfl rfl rfl (q_fieldAddr (a := a2) (off := 2) rfl Tryz.underlying35 rfl rfl ok2 (by decide) rfl) ?_
  obtain ⟨x3, hx3, h⟩ := h
  refine rv 6 rfl rfl rfl (q_load (T := (tInt .i64)) (u := x3) (a := (a2.add 2)) rfl ok2 rfl hx3) ?_
  refine rv 2 rfl rfl rfl (q_assign (v := .int .i64 (x3)) rfl rfl) ?_
  refine ro_nil ?_
  refine wp_ret ?_
  exact ret_ok rfl (.cons (.tmp (v := .int .i64 (x3)) rfl) .nil) ⟨x3, rfl, h⟩
def F19_l1 (v_1 : (Option Addr)) (t_2 : Int) (a5 : Addr) (a8 : Addr) (w9 : World) (K10 : Unit → World → Prop) (R : Int → World → Prop) : Prop :=
  nxt a8 w9 fun q12 w11 =>
  if (Option.isSome q12) = true then (
    ex (Ent T54 .i64 a8 w11) fun e13 =>
    nw 55 T54 Z54 w11 fun a14 w15 =>
    st T54 a14 e13.2 w15 fun w16 =>
    ex (RdAt (tInt .i64) (a14.add 4) w16) fun x17 =>
    if (decide (x17 ≤ t_2)) = true then (
      R (160 : Int) w16
    ) else (
      K10 () w16
    )
  ) else (
    ex (RdAt tPtr ((a5.add 0).add 0) w11) fun x19 =>
    cl Tryz.prog 37 [.pointer (x19), .int .i64 (t_2)] (tInt .i64) w11 fun r21 w20 =>
    cl Tryz.prog 33 [.pointer (v_1), .int .i64 (t_2)] tUnit w20 fun r23 w22 =>
    R (0 : Int) w22
  )
def F19 (v_1 : (Option Addr)) (t_2 : Int) (w : World) (R : Int → World → Prop) : Prop :=
  cl Tryz.prog 36 [.int .i64 (t_2)] tBool w fun r4 w3 =>
  if (!r4) = true then (
    R (151 : Int) w3
  ) else (
    ex (NC v_1) fun a5 =>
    ex (RdAt tMap (a5.add 3) w3) fun x6 =>
    rng x6 w3 fun a8 w7 =>
    lp (fun (s : Unit) w K => F19_l1 v_1 t_2 a5 a8 w K R) () w7
  )
theorem F19_ok {v_1 : (Option Addr)} {t_2 : Int} {w : World} {R : Int → World → Prop} (h : F19 v_1 t_2 w R) : cl Tryz.prog 19 [.pointer (v_1), .int .i64 (t_2)] (tInt .i64) w R := by
  unfold F19 at h
  refine calls_start 33 Tryz.func19 rfl rfl (Nat.le_of_ble_eq_true rfl) ?_
  refine wp_seq ?_
  refine wp_text [0] rfl ?_
  refine rv 4 rfl rfl rfl (q_assign (v := .int .i64 ((0 : Int))) rfl rfl) ?_
  refine ro_nil ?_
  refine wp_seq ?_
  refine wp_seq ?_
  refine wp_text [0, 1, 2] rfl ?_
  refine rv 7 rfl rfl rfl (q_move (v := .int .i64 (t_2)) rfl rfl) ?_
  refine ro_wp rfl (.free rfl) (wp_cl (d := (some 8)) rfl (q_call (k := 36) (l := [.int .i64 (t_2)]) rfl ent36 rfl) h ?_)
  intro r4 w3 h
  refine rv 9 rfl rfl rfl (q_not (b := r4) rfl rfl) ?_
  refine ro_nil ?_
  refine wp_if (b := (!r4)) rfl h (fun hb25 h => ?_) (fun hb25 h => ?_)
  · refine wp_seq ?_
    refine wp_text [0] rfl ?_
    refine rv 4 rfl rfl rfl (q_assign (v := .int .i64 ((151 : Int))) rfl rfl) ?_
    refine ro_nil ?_
    refine wp_ret ?_
    exact ret_ok rfl (.cons (.tmp (v := .int .i64 ((151 : Int))) rfl) .nil) ⟨(151 : Int), rfl, h⟩
  · refine wp_skip ?_
    refine wp_seq ?_
    refine wp_seq ?_
    refine wp_text [0, 1, 2, 3, 4] rfl ?_
    refine rv 10 rfl rfl rfl (q_move (v := .pointer (v_1)) rfl rfl) ?_
    obtain ⟨a5, ha5, h⟩ := h
    refine rv 11 rfl rfl rfl (q_nilCheck (a := a5) rfl (congrArg Value.pointer ha5)) ?_
    refine rv 12 rfl rfl rfl (q_fieldAddr (a := a5) (off := 3) rfl Tryz.underlying35 rfl rfl ok31 (by decide) rfl) ?_
    obtain ⟨x6, hx6, h⟩ := h
    refine rv 13 rfl rfl rfl (q_load (T := tMap) (u := x6) (a := (a5.add 3)) rfl ok31 rfl hx6) ?_
    refine ro_wp rfl (.free rfl) (wp_rng (r := x6) (d := (some 14)) rfl rfl Tryz.underlying31 rfl h ?_)
    intro a8 w7 h
    refine ro_nil ?_
    refine wp_block ?_
    refine loop_at (σ := Unit) (fr := fun g (s : Unit) => upd (upd (upd (g) 0 (.pointer (v_1))) 1 (.int .i64 (t_2))) 14 (.pointer (some a8))) (s0 := ()) (upd_step (upd_step (upd_step rfl rfl) rfl) rfl) h ?_
    rintro ⟨⟩ g w9 K10 h
    unfold F19_l1 at h
    refine wp_seq ?_
    refine wp_text [0, 1] rfl ?_
    refine ro_wp rfl (.free rfl) (wp_nxt (a := a8) (d := (some 15)) rfl rfl rfl h ?_)
    intro q12 w11 h
    refine rv 16 rfl rfl rfl (q_extractN (q := q12) rfl rfl) ?_
    refine ro_nil ?_
    refine wp_seq ?_
    refine wp_if (b := (Option.isSome q12)) rfl h (fun hb24 h => ?_) (fun hb24 h => ?_)
    · refine wp_skip ?_
      refine wp_block ?_
      refine wp_seq ?_
      refine wp_text [0, 1, 2, 3] rfl ?_
      obtain ⟨e13, he13, h⟩ := h
      refine rv 17 rfl rfl rfl (q_entry (T := T54) (p := e13) (a := a8) rfl rfl he13) ?_
      refine rv 18 rfl rfl rfl (q_extract (vs := #[.int .i64 (e13.1), T54.enc (e13.2)]) (v := T54.enc (e13.2)) rfl rfl rfl) ?_
      obtain ⟨a14, w15, ha14, hw15, h⟩ := nw_open h
      refine rv 6 rfl rfl rfl (q_alloc (u := Z54) rfl ok55 inf55 ha14 hw15) ?_
      obtain ⟨w16, hw16, hrw16, h⟩ := st_open h
      refine ro_skip (d := none) rfl (.free rfl) rfl (q_store (T := T54) (u := e13.2) (a := a14) rfl ok55 rfl rfl hrw16 hw16) ?_
      refine ro_nil ?_
      refine wp_seq ?_
      refine wp_text [0, 1, 2, 3] rfl ?_
      refine rv 19 rfl rfl rfl (q_fieldAddr (a := a14) (off := 4) rfl Tryz.underlying55 rfl rfl ok2 (by decide) rfl) ?_
      obtain ⟨x17, hx17, h⟩ := h
      refine rv 20 rfl rfl rfl (q_load (T := (tInt .i64)) (u := x17) (a := (a14.add 4)) rfl ok2 rfl hx17) ?_
      refine rv 21 rfl rfl rfl (q_move (v := .int .i64 (t_2)) rfl rfl) ?_
      refine rv 22 rfl rfl rfl (q_leq (a := x17) (b := t_2) rfl rfl rfl) ?_
      refine ro_nil ?_
      refine wp_if (b := (decide (x17 ≤ t_2))) rfl h (fun hb18 h => ?_) (fun hb18 h => ?_)
      · refine wp_seq ?_
        refine wp_text [0] rfl ?_
        refine rv 4 rfl rfl rfl (q_assign (v := .int .i64 ((160 : Int))) rfl rfl) ?_
        refine ro_nil ?_
        refine wp_ret ?_
        exact ret_ok rfl (.cons (.tmp (v := .int .i64 ((160 : Int))) rfl) .nil) ⟨(160 : Int), rfl, h⟩
      · refine wp_skip ?_
        exact ⟨(), _, arr (upd_step (upd_step (upd_step rfl rfl) rfl) rfl), h⟩
    · refine wp_exit ?_
      refine wp_seq ?_
      refine wp_text [0, 1, 2, 3, 4, 5, 6] rfl ?_
      refine rv 23 rfl rfl rfl (q_move (v := .pointer (v_1)) rfl rfl) ?_
      refine rv 24 rfl rfl rfl (q_nilCheck (a := a5) rfl (congrArg Value.pointer ha5)) ?_
      refine rv 25 rfl rfl rfl (q_fieldAddr (a := a5) (off := 0) rfl Tryz.underlying35 rfl rfl ok30 (by decide) rfl) ?_
      refine rv 26 rfl rfl rfl (q_fieldAddr (a := (a5.add 0)) (off := 0) rfl Tryz.underlying30 rfl rfl ok28 (by decide) rfl) ?_
      obtain ⟨x19, hx19, h⟩ := h
      refine rv 27 rfl rfl rfl (q_load (T := tPtr) (u := x19) (a := ((a5.add 0).add 0)) rfl ok28 rfl hx19) ?_
      refine rv 28 rfl rfl rfl (q_move (v := .int .i64 (t_2)) rfl rfl) ?_
      refine ro_wp rfl (.free rfl) (wp_cl (d := (some 29)) rfl (q_call (k := 37) (l := [.pointer (x19), .int .i64 (t_2)]) rfl ent37 rfl) h ?_)
      intro r21 w20 h
      refine ro_nil ?_
      refine wp_seq ?_
      refine wp_text [0, 1, 2] rfl ?_
      refine rv 30 rfl rfl rfl (q_move (v := .pointer (v_1)) rfl rfl) ?_
      refine rv 31 rfl rfl rfl (q_move (v := .int .i64 (t_2)) rfl rfl) ?_
      refine ro_wp rfl (.free rfl) (wp_cl (d := (some 32)) rfl (q_call (k := 33) (l := [.pointer (v_1), .int .i64 (t_2)]) rfl ent33 rfl) h ?_)
      intro r23 w22 h
      refine ro_nil ?_
      refine wp_seq ?_
      refine wp_text [0] rfl ?_
      refine rv 4 rfl rfl rfl (q_assign (v := .int .i64 ((0 : Int))) rfl rfl) ?_
      refine ro_nil ?_
      refine wp_ret ?_
      exact ret_ok rfl (.cons (.tmp (v := .int .i64 ((0 : Int))) rfl) .nil) ⟨(0 : Int), rfl, h⟩
def F20 (o_1 : S41) (w : World) (R : S52 → World → Prop) : Prop :=
  nw 42 T41 o_1 w fun a2 w3 =>
  nw 53 T52 Z52 w3 fun a4 w5 =>
  ex (RdAt (tInt .i64) (a2.add 1) w5) fun x6 =>
  ex (RdAt (tInt .i64) (a2.add 2) w5) fun x7 =>
  ex (RdAt (tInt .i64) (a2.add 4) w5) fun x8 =>
  ex (RdAt tBool (a2.add 5) w5) fun x9 =>
  st T52 a4 (⟨x6, x7, x8, x9⟩ : S52) w5 fun w10 =>
  ex (RdAt T52 a4 w10) fun x11 =>
  R x11 w10
theorem F20_ok {o_1 : S41} {w : World} {R : S52 → World → Prop} (h : F20 o_1 w R) : cl Tryz.prog 20 [T41.enc (o_1)] T52 w R := by
  unfold F20 at h
  refine calls_start 12 Tryz.func20 rfl rfl (Nat.le_of_ble_eq_true rfl) ?_
  refine wp_seq ?_
  refine wp_text [0, 1] rfl ?_
  obtain ⟨a2, w3, ha2, hw3, h⟩ := nw_open h
  refine rv 1 rfl rfl rfl (q_box (u := o_1) rfl ok42 rfl ha2 hw3) ?_
  obtain ⟨a4, w5, ha4, hw5, h⟩ := nw_open h
  refine rv 2 rfl rfl rfl (q_alloc (u := Z52) rfl ok53 inf53 ha4 hw5) ?_
  refine ro_nil ?_
  refine wp_seq ?_
  refine wp_text [0, 1, 2, 3, 4, 5, 6, 7, 8, 9] rfl ?_
  refine rv 3 rfl rfl rfl (q_fieldAddr (a := a2) (off := 1) rfl Tryz.underlying42 rfl rfl ok3 (by decide) rfl) ?_
  obtain ⟨x6, hx6, h⟩ := h
  refine rv 4 rfl rfl rfl (q_load (T := (tInt .i64)) (u := x6) (a := (a2.add 1)) rfl ok3 rfl hx6) ?_
  refine rv 5 rfl rfl rfl (q_fieldAddr (a := a2) (off := 2) rfl Tryz.underlying42 rfl rfl ok3 (by decide) rfl) ?_
  obtain ⟨x7, hx7, h⟩ := h
  refine rv 6 rfl rfl rfl (q_load (T := (tInt .i64)) (u := x7) (a := (a2.add 2)) rfl ok3 rfl hx7) ?_
  refine rv 7 rfl rfl rfl (q_fieldAddr (a := a2) (off := 4) rfl Tryz.underlying42 rfl rfl ok2 (by decide) rfl) ?_
  obtain ⟨x8, hx8, h⟩ := h
  refine rv 8 rfl rfl rfl (q_load (T := (tInt .i64)) (u := x8) (a := (a2.add 4)) rfl ok2 rfl hx8) ?_
  refine rv 9 rfl rfl rfl (q_fieldAddr (a := a2) (off := 5) rfl Tryz.underlying42 rfl rfl ok4 (by decide) rfl) ?_
  obtain ⟨x9, hx9, h⟩ := h
  refine rv 10 rfl rfl rfl (q_load (T := tBool) (u := x9) (a := (a2.add 5)) rfl ok4 rfl hx9) ?_
  refine rv 11 rfl rfl rfl (q_build53_0_1_2_3 (v0 := x6) (v1 := x7) (v2 := x8) (v3 := x9) rfl rfl rfl rfl rfl) ?_
  obtain ⟨w10, hw10, hrw10, h⟩ := st_open h
  refine ro_skip (d := none) rfl (.free rfl) rfl (q_store (T := T52) (u := (⟨x6, x7, x8, x9⟩ : S52)) (a := a4) rfl ok53 rfl rfl hrw10 hw10) ?_
  refine ro_nil ?_
  refine wp_ret ?_
  obtain ⟨x11, hx11, h⟩ := h
  exact ret_ok rfl (.cons (.cell (T := T52) (u := x11) (a := a4) ok53 rfl hx11) .nil) ⟨x11, rfl, h⟩
def F21 (v_1 : (Option Addr)) (t_2 : Int) (p_3 : S52) (w : World) (R : Int → World → Prop) : Prop :=
  nw 53 T52 p_3 w fun a4 w5 =>
  cl Tryz.prog 38 [.pointer (v_1), .int .i64 (t_2)] (tInt .i64) w5 fun r7 w6 =>
  if (r7 != (0 : Int)) = true then (
    R r7 w6
  ) else (
    ex (RdAt T52 a4 w6) fun x8 =>
    cl Tryz.prog 39 [.pointer (v_1), T52.enc (x8)] (tTup2 (tInt .i64) (tInt .i64)) w6 fun r10 w9 =>
    if (r10.2 != (0 : Int)) = true then (
      R r10.2 w9
    ) else (
      dr w9 fun w11 =>
      ex (NC v_1) fun a12 =>
      ex (RdAt tMap (a12.add 3) w11) fun x13 =>
      ex (RdAt (tInt .i64) (a4.add 0) w11) fun x14 =>
      ex (RdAt T52 a4 w11) fun x15 =>
      mput T54 .i64 x13 x14 (⟨x15, t_2, r10.1⟩ : S54) w11 fun w16 =>
      dr w16 fun w17 =>
      ex (RdAt tMap (a12.add 4) w17) fun x18 =>
      ex (RdAt (tInt .i64) (a4.add 1) w17) fun x19 =>
      ex (RdAt (tInt .i64) (a4.add 0) w17) fun x20 =>
      mput (tInt .i64) .i64 x18 x19 x20 w17 fun w21 =>
      dr w21 fun w22 =>
      ex (RdAt tMap (a12.add 5) w22) fun x23 =>
      ex (RdAt (tInt .i64) (a4.add 0) w22) fun x24 =>
      mput T69 .i64 x23 x24 (⟨(1 : Int), t_2⟩ : S69) w22 fun w25 =>
      cl Tryz.prog 33 [.pointer (v_1), .int .i64 (t_2)] tUnit w25 fun r27 w26 =>
      R (0 : Int) w26
    )
  )
theorem F21_ok {v_1 : (Option Addr)} {t_2 : Int} {p_3 : S52} {w : World} {R : Int → World → Prop} (h : F21 v_1 t_2 p_3 w R) : cl Tryz.prog 21 [.pointer (v_1), .int .i64 (t_2), T52.enc (p_3)] (tInt .i64) w R := by
  unfold F21 at h
  refine calls_start 54 Tryz.func21 rfl rfl (Nat.le_of_ble_eq_true rfl) ?_
  refine wp_seq ?_
  refine wp_text [0, 1] rfl ?_
  obtain ⟨a4, w5, ha4, hw5, h⟩ := nw_open h
  refine rv 5 rfl rfl rfl (q_box (u := p_3) rfl ok53 rfl ha4 hw5) ?_
  refine rv 6 rfl rfl rfl (q_assign (v := .int .i64 ((0 : Int))) rfl rfl) ?_
  refine ro_nil ?_
  refine wp_seq ?_
  refine wp_seq ?_
  refine wp_text [0, 1, 2, 3] rfl ?_
  refine rv 10 rfl rfl rfl (q_move (v := .pointer (v_1)) rfl rfl) ?_
  refine rv 11 rfl rfl rfl (q_move (v := .int .i64 (t_2)) rfl rfl) ?_
  refine ro_wp rfl (.free rfl) (wp_cl (d := (some 12)) rfl (q_call (k := 38) (l := [.pointer (v_1), .int .i64 (t_2)]) rfl ent38 rfl) h ?_)
  intro r7 w6 h
  refine rv 7 rfl rfl rfl (q_assign (v := .int .i64 (r7)) rfl rfl) ?_
  refine ro_nil ?_
  refine wp_seq ?_
  refine wp_text [0, 1] rfl ?_
  refine rv 13 rfl rfl rfl (q_move (v := .int .i64 (r7)) rfl rfl) ?_
  refine rv 14 rfl rfl rfl (q_neq (a := r7) (b := (0 : Int)) rfl rfl rfl) ?_
  refine ro_nil ?_
  refine wp_if (b := (r7 != (0 : Int))) rfl h (fun hb29 h => ?_) (fun hb29 h => ?_)
  · refine wp_seq ?_
    refine wp_text [0, 1] rfl ?_
    refine rv 15 rfl rfl rfl (q_move (v := .int .i64 (r7)) rfl rfl) ?_
    refine rv 6 rfl rfl rfl (q_assign (v := .int .i64 (r7)) rfl rfl) ?_
    refine ro_nil ?_
    refine wp_ret ?_
    exact ret_ok rfl (.cons (.tmp (v := .int .i64 (r7)) rfl) .nil) ⟨r7, rfl, h⟩
  · refine wp_skip ?_
    refine wp_seq ?_
    refine wp_text [0, 1, 2, 3, 4, 5, 6, 7] rfl ?_
    refine rv 17 rfl rfl rfl (q_move (v := .pointer (v_1)) rfl rfl) ?_
    obtain ⟨x8, hx8, h⟩ := h
    refine rv 18 rfl rfl rfl (q_load (T := T52) (u := x8) (a := a4) rfl ok53 rfl hx8) ?_
    refine ro_wp rfl (.free rfl) (wp_cl (d := (some 19)) rfl (q_call (k := 39) (l := [.pointer (v_1), T52.enc (x8)]) rfl ent39 rfl) h ?_)
    intro r10 w9 h
    refine rv 16 rfl rfl rfl (q_move (v := (tTup2 (tInt .i64) (tInt .i64)).enc (r10)) rfl rfl) ?_
    refine rv 20 rfl rfl rfl (q_extract (vs := #[.int .i64 (r10.1), .int .i64 (r10.2)]) (v := .int .i64 (r10.1)) rfl rfl rfl) ?_
    refine rv 21 rfl rfl rfl (q_extract (vs := #[.int .i64 (r10.1), .int .i64 (r10.2)]) (v := .int .i64 (r10.2)) rfl rfl rfl) ?_
    refine rv 8 rfl rfl rfl (q_assign (v := .int .i64 (r10.1)) rfl rfl) ?_
    refine rv 9 rfl rfl rfl (q_assign (v := .int .i64 (r10.2)) rfl rfl) ?_
    refine ro_nil ?_
    refine wp_seq ?_
    refine wp_seq ?_
    refine wp_text [0, 1] rfl ?_
    refine rv 22 rfl rfl rfl (q_move (v := .int .i64 (r10.2)) rfl rfl) ?_
    refine rv 23 rfl rfl rfl (q_neq (a := r10.2) (b := (0 : Int)) rfl rfl rfl) ?_
    refine ro_nil ?_
    refine wp_if (b := (r10.2 != (0 : Int))) rfl h (fun hb28 h => ?_) (fun hb28 h => ?_)
    · refine wp_seq ?_
      refine wp_text [0, 1] rfl ?_
      refine rv 24 rfl rfl rfl (q_move (v := .int .i64 (r10.2)) rfl rfl) ?_
      refine rv 6 rfl rfl rfl (q_assign (v := .int .i64 (r10.2)) rfl rfl) ?_
      refine ro_nil ?_
      refine wp_ret ?_
      exact ret_ok rfl (.cons (.tmp (v := .int .i64 (r10.2)) rfl) .nil) ⟨r10.2, rfl, h⟩
    · refine wp_skip ?_
      refine wp_seq ?_
      obtain ⟨w11, hw11, h⟩ := dr_open h
      refine wp_drawn 11 mixed rfl (by kernel_rfl) (by intro c a d v w h; cases d <;> exact h) hw11 (fun hD => ?_)
      refine rp 0 25 hD rfl rfl rfl (fun _ => q_move (v := .pointer (v_1)) rfl rfl) ?_
      obtain ⟨a12, ha12, h⟩ := h
      refine rp 1 26 hD rfl rfl rfl (fun _ => q_nilCheck (a := a12) rfl (congrArg Value.pointer ha12)) ?_
      refine rp 2 27 hD rfl rfl rfl (fun _ => q_fieldAddr (a := a12) (off := 3) rfl Tryz.underlying35 rfl rfl ok31 (by decide) rfl) ?_
      refine rp 4 29 hD rfl rfl rfl (fun _ => q_fieldAddr (a := a4) (off := 0) rfl Tryz.underlying53 rfl rfl ok3 (by decide) rfl) ?_
      refine rp 7 32 hD rfl rfl rfl (fun _ => q_move (v := .int .i64 (t_2)) rfl rfl) ?_
      refine rp 8 33 hD rfl rfl rfl (fun _ => q_move (v := .int .i64 (r10.1)) rfl rfl) ?_
      obtain ⟨x13, hx13, h⟩ := h
      refine rd_read (i := 3) (d := (some 28)) (fun W => (RdAt tMap (a12.add 3) W) x13) hD (by kernel_rfl) (by kernel_rfl) rfl (.free rfl) rfl (fun W hr => q_load (T := tMap) (u := x13) (a := (a12.add 3)) rfl ok31 rfl hr) hx13 ?_
      obtain ⟨x14, hx14, h⟩ := h
      refine rd_read (i := 5) (d := (some 30)) (fun W => (RdAt (tInt .i64) (a4.add 0) W) x14) hD (by kernel_rfl) (by kernel_rfl) rfl (.free rfl) rfl (fun W hr => q_load (T := (tInt .i64)) (u := x14) (a := (a4.add 0)) rfl ok3 rfl hr) hx14 ?_
      obtain ⟨x15, hx15, h⟩ := h
      refine rd_read (i := 6) (d := (some 31)) (fun W => (RdAt T52 a4 W) x15) hD (by kernel_rfl) (by kernel_rfl) rfl (.free rfl) rfl (fun W hr => q_load (T := T52) (u := x15) (a := a4) rfl ok53 rfl hr) hx15 ?_
      refine rp 9 34 hD rfl rfl rfl (fun _ => q_build55_0_1_2 (v0 := x15) (v1 := t_2) (v2 := r10.1) rfl rfl rfl rfl) ?_
      refine rd_one (i := 10) (by kernel_rfl) ?_
      refine po_wp rfl (.free rfl) (wp_mput (T := T54) (r := x13) (key := x14) (v := (⟨x15, t_2, r10.1⟩ : S54)) (d := none) rfl (.inl rfl) Tryz.underlying31 Tryz.underlying3 rfl rfl rfl h ?_)
      intro w16 h
      refine ⟨(hk_wait (by kernel_rfl) (hk_wait (by kernel_rfl) (hk_wait (by kernel_rfl) hk_nil))), ?_⟩
      refine rd_nil (by kernel_rfl) ?_
      refine wp_seq ?_
      obtain ⟨w17, hw17, h⟩ := dr_open h
      refine wp_drawn 9 mixed rfl (by kernel_rfl) (by intro c a d v w h; cases d <;> exact h) hw17 (fun hD => ?_)
      refine rp 0 35 hD rfl rfl rfl (fun _ => q_move (v := .pointer (v_1)) rfl rfl) ?_
      refine rp 1 36 hD rfl rfl rfl (fun _ => q_nilCheck (a := a12) rfl (congrArg Value.pointer ha12)) ?_
      refine rp 2 37 hD rfl rfl rfl (fun _ => q_fieldAddr (a := a12) (off := 4) rfl Tryz.underlying35 rfl rfl ok32 (by decide) rfl) ?_
      refine rp 4 39 hD rfl rfl rfl (fun _ => q_fieldAddr (a := a4) (off := 1) rfl Tryz.underlying53 rfl rfl ok3 (by decide) rfl) ?_
      refine rp 6 41 hD rfl rfl rfl (fun _ => q_fieldAddr (a := a4) (off := 0) rfl Tryz.underlying53 rfl rfl ok3 (by decide) rfl) ?_
      obtain ⟨x18, hx18, h⟩ := h
      refine rd_read (i := 3) (d := (some 38)) (fun W => (RdAt tMap (a12.add 4) W) x18) hD (by kernel_rfl) (by kernel_rfl) rfl (.free rfl) rfl (fun W hr => q_load (T := tMap) (u := x18) (a := (a12.add 4)) rfl ok32 rfl hr) hx18 ?_
      obtain ⟨x19, hx19, h⟩ := h
      refine rd_read (i := 5) (d := (some 40)) (fun W => (RdAt (tInt .i64) (a4.add 1) W) x19) hD (by kernel_rfl) (by kernel_rfl) rfl (.free rfl) rfl (fun W hr => q_load (T := (tInt .i64)) (u := x19) (a := (a4.add 1)) rfl ok3 rfl hr) hx19 ?_
      obtain ⟨x20, hx20, h⟩ := h
      refine rd_read (i := 7) (d := (some 42)) (fun W => (RdAt (tInt .i64) (a4.add 0) W) x20) hD (by kernel_rfl) (by kernel_rfl) rfl (.free rfl) rfl (fun W hr => q_load (T := (tInt .i64)) (u := x20) (a := (a4.add 0)) rfl ok3 rfl hr) hx20 ?_
      refine rd_one (i := 8) (by kernel_rfl) ?_
      refine po_wp rfl (.free rfl) (wp_mput (T := (tInt .i64)) (r := x18) (key := x19) (v := x20) (d := none) rfl (.inl rfl) Tryz.underlying32 Tryz.underlying3 rfl rfl rfl h ?_)
      intro w21 h
      refine ⟨(hk_wait (by kernel_rfl) (hk_wait (by kernel_rfl) (hk_wait (by kernel_rfl) hk_nil))), ?_⟩
      refine rd_nil (by kernel_rfl) ?_
      refine wp_seq ?_
      obtain ⟨w22, hw22, h⟩ := dr_open h
      refine wp_drawn 9 mixed rfl (by kernel_rfl) (by intro c a d v w h; cases d <;> exact h) hw22 (fun hD => ?_)
      refine rp 0 43 hD rfl rfl rfl (fun _ => q_move (v := .pointer (v_1)) rfl rfl) ?_
      refine rp 1 44 hD rfl rfl rfl (fun _ => q_nilCheck (a := a12) rfl (congrArg Value.pointer ha12)) ?_
      refine rp 2 45 hD rfl rfl rfl (fun _ => q_fieldAddr (a := a12) (off := 5) rfl Tryz.underlying35 rfl rfl ok33 (by decide) rfl) ?_
      refine rp 4 47 hD rfl rfl rfl (fun _ => q_fieldAddr (a := a4) (off := 0) rfl Tryz.underlying53 rfl rfl ok3 (by decide) rfl) ?_
      refine rp 6 49 hD rfl rfl rfl (fun _ => q_move (v := .int .i64 (t_2)) rfl rfl) ?_
      refine rp 7 50 hD rfl rfl rfl (fun _ => q_build70_0_1 (v0 := (1 : Int)) (v1 := t_2) rfl rfl rfl) ?_
      obtain ⟨x23, hx23, h⟩ := h
      refine rd_read (i := 3) (d := (some 46)) (fun W => (RdAt tMap (a12.add 5) W) x23) hD (by kernel_rfl) (by kernel_rfl) rfl (.free rfl) rfl (fun W hr => q_load (T := tMap) (u := x23) (a := (a12.add 5)) rfl ok33 rfl hr) hx23 ?_
      obtain ⟨x24, hx24, h⟩ := h
      refine rd_read (i := 5) (d := (some 48)) (fun W => (RdAt (tInt .i64) (a4.add 0) W) x24) hD (by kernel_rfl) (by kernel_rfl) rfl (.free rfl) rfl (fun W hr => q_load (T := (tInt .i64)) (u := x24) (a := (a4.add 0)) rfl ok3 rfl hr) hx24 ?_
      refine rd_one (i := 8) (by kernel_rfl) ?_
      refine po_wp rfl (.free rfl) (wp_mput (T := T69) (r := x23) (key := x24) (v := (⟨(1 : Int), t_2⟩ : S69)) (d := none) rfl (.inl rfl) Tryz.underlying33 Tryz.underlying3 rfl rfl rfl h ?_)
      intro w25 h
      refine ⟨(hk_wait (by kernel_rfl) (hk_wait (by kernel_rfl) hk_nil)), ?_⟩
      refine rd_nil (by kernel_rfl) ?_
      refine wp_seq ?_
      refine wp_text [0, 1, 2] rfl ?_
      refine rv 51 rfl rfl rfl (q_move (v := .pointer (v_1)) rfl rfl) ?_
      refine rv 52 rfl rfl rfl (q_move (v := .int .i64 (t_2)) rfl rfl) ?_
      refine ro_wp rfl (.free rfl) (wp_cl (d := (some 53)) rfl (q_call (k := 33) (l := [.pointer (v_1), .int .i64 (t_2)]) rfl ent33 rfl) h ?_)
      intro r27 w26 h
      refine ro_nil ?_
      refine wp_seq ?_
      refine wp_text [0] rfl ?_
      refine rv 6 rfl rfl rfl (q_assign (v := .int .i64 ((0 : Int))) rfl rfl) ?_
      refine ro_nil ?_
      refine wp_ret ?_
      exact ret_ok rfl (.cons (.tmp (v := .int .i64 ((0 : Int))) rfl) .nil) ⟨(0 : Int), rfl, h⟩
def F22 (rate_1 : Nat) (w : World) (R : ((Option Addr) × Int) → World → Prop) : Prop :=
  cl Tryz.prog 40 [.float .f64 (rate_1)] (tInt .i64) w fun r3 w2 =>
  if (r3 != (0 : Int)) = true then (
    R ((none : Option Addr), (150 : Int)) w2
  ) else (
    cl Tryz.prog 41 [] tPtr w2 fun r5 w4 =>
    nwMap w4 fun m7 w6 =>
    nwMap w6 fun m9 w8 =>
    nwMap w8 fun m11 w10 =>
    nw 35 T34 (⟨(⟨r5⟩ : S29), rate_1, (0 : Int), (some m7), (some m9), (some m11)⟩ : S34) w10 fun a12 w13 =>
    R ((some a12), (0 : Int)) w13
  )
theorem F22_ok {rate_1 : Nat} {w : World} {R : ((Option Addr) × Int) → World → Prop} (h : F22 rate_1 w R) : cl Tryz.prog 22 [.float .f64 (rate_1)] (tTup2 tPtr (tInt .i64)) w R := by
  unfold F22 at h
  refine calls_start 15 Tryz.func22 rfl rfl (Nat.le_of_ble_eq_true rfl) ?_
  refine wp_seq ?_
  refine wp_text [0, 1] rfl ?_
  refine rv 2 rfl rfl rfl (q_assign (v := .pointer ((none : Option Addr))) rfl rfl) ?_
  refine rv 3 rfl rfl rfl (q_assign (v := .int .i64 ((0 : Int))) rfl rfl) ?_
  refine ro_nil ?_
  refine wp_seq ?_
  refine wp_seq ?_
  refine wp_text [0, 1, 2] rfl ?_
  refine rv 4 rfl rfl rfl (q_move (v := .float .f64 (rate_1)) rfl rfl) ?_
  refine ro_wp rfl (.free rfl) (wp_cl (d := (some 5)) rfl (q_call (k := 40) (l := [.float .f64 (rate_1)]) rfl ent40 rfl) h ?_)
  intro r3 w2 h
  refine rv 6 rfl rfl rfl (q_neq (a := r3) (b := (0 : Int)) rfl rfl rfl) ?_
  refine ro_nil ?_
  refine wp_if (b := (r3 != (0 : Int))) rfl h (fun hb14 h => ?_) (fun hb14 h => ?_)
  · refine wp_seq ?_
    refine wp_text [0, 1] rfl ?_
    refine rv 2 rfl rfl rfl (q_assign (v := .pointer ((none : Option Addr))) rfl rfl) ?_
    refine rv 3 rfl rfl rfl (q_assign (v := .int .i64 ((150 : Int))) rfl rfl) ?_
    refine ro_nil ?_
    refine wp_ret ?_
    exact ret_ok rfl (.cons (.tmp (v := .pointer ((none : Option Addr))) rfl) (.cons (.tmp (v := .int .i64 ((150 : Int))) rfl) .nil)) ⟨((none : Option Addr), (150 : Int)), rfl, h⟩
  · refine wp_skip ?_
    refine wp_seq ?_
    refine wp_text [0, 1, 2, 3, 4, 5, 6, 7, 8, 9] rfl ?_
    refine ro_wp rfl (.free rfl) (wp_cl (d := (some 7)) rfl (q_call (k := 41) (l := []) rfl ent41 rfl) h ?_)
    intro r5 w4 h
    refine rv 8 rfl rfl rfl (q_build30_0 (v0 := r5) rfl rfl) ?_
    refine rv 9 rfl rfl rfl (q_move (v := .float .f64 (rate_1)) rfl rfl) ?_
    obtain ⟨m7, w6, hm7, hw6, h⟩ := nwMap_open h
    refine rv 10 rfl rfl rfl (q_makeMap rfl hm7 hw6) ?_
    obtain ⟨m9, w8, hm9, hw8, h⟩ := nwMap_open h
    refine rv 11 rfl rfl rfl (q_makeMap rfl hm9 hw8) ?_
    obtain ⟨m11, w10, hm11, hw10, h⟩ := nwMap_open h
    refine rv 12 rfl rfl rfl (q_makeMap rfl hm11 hw10) ?_
    refine rv 13 rfl rfl rfl (q_build35_0_1_3_4_5 (v0 := (⟨r5⟩ : S29)) (v1 := rate_1) (v3 := (some m7)) (v4 := (some m9)) (v5 := (some m11)) rfl rfl rfl rfl rfl rfl) ?_
    obtain ⟨a12, w13, ha12, hw13, h⟩ := nw_open h
    refine rv 14 rfl rfl rfl (q_box (u := (⟨(⟨r5⟩ : S29), rate_1, (0 : Int), (some m7), (some m9), (some m11)⟩ : S34)) rfl ok35 rfl ha12 hw13) ?_
    refine rv 2 rfl rfl rfl (q_assign (v := .pointer (some a12)) rfl rfl) ?_
    refine rv 3 rfl rfl rfl (q_assign (v := .int .i64 ((0 : Int))) rfl rfl) ?_
    refine ro_nil ?_
    refine wp_ret ?_
    exact ret_ok rfl (.cons (.tmp (v := .pointer ((some a12))) rfl) (.cons (.tmp (v := .int .i64 ((0 : Int))) rfl) .nil)) ⟨((some a12), (0 : Int)), rfl, h⟩
def F23 (v_1 : (Option Addr)) (t_2 : Int) (account_3 : Int) (n_4 : Int) (w : World) (R : Int → World → Prop) : Prop :=
  cl Tryz.prog 38 [.pointer (v_1), .int .i64 (t_2)] (tInt .i64) w fun r6 w5 =>
  if (r6 != (0 : Int)) = true then (
    R r6 w5
  ) else (
    ex (NC v_1) fun a7 =>
    ex (RdAt tPtr ((a7.add 0).add 0) w5) fun x8 =>
    cl Tryz.prog 42 [.pointer (x8), .int .i64 (account_3)] (tTup2 T86 tBool) w5 fun r10 w9 =>
    nw 87 T86 Z86 w9 fun a11 w12 =>
    st T86 a11 r10.1 w12 fun w13 =>
    cl Tryz.prog 43 [.int .i64 (account_3)] tBool w13 fun r15 w14 =>
    if (!r15) = true then (
      R (153 : Int) w14
    ) else (
      if r10.2 = true then (
        R (154 : Int) w14
      ) else (
        cl Tryz.prog 44 [.int .i64 (n_4)] (tInt .i64) w14 fun r17 w16 =>
        if (r17 != (0 : Int)) = true then (
          R (155 : Int) w16
        ) else (
          ex (RdAt tPtr ((a7.add 0).add 0) w16) fun x18 =>
          nwS 63 T62 [(⟨account_3, n_4⟩ : S62)] w16 fun a19 w20 =>
          cl Tryz.prog 30 [.pointer (x18), .int .i64 (t_2), tSlc.enc ((⟨some a19, 1, 1⟩ : Slc))] (tInt .i64) w20 fun r22 w21 =>
          cl Tryz.prog 33 [.pointer (v_1), .int .i64 (t_2)] tUnit w21 fun r24 w23 =>
          R (0 : Int) w23
        )
      )
    )
  )
theorem F23_ok {v_1 : (Option Addr)} {t_2 : Int} {account_3 : Int} {n_4 : Int} {w : World} {R : Int → World → Prop} (h : F23 v_1 t_2 account_3 n_4 w R) : cl Tryz.prog 23 [.pointer (v_1), .int .i64 (t_2), .int .i64 (account_3), .int .i64 (n_4)] (tInt .i64) w R := by
  unfold F23 at h
  refine calls_start 52 Tryz.func23 rfl rfl (Nat.le_of_ble_eq_true rfl) ?_
  refine wp_seq ?_
  refine wp_text [0] rfl ?_
  refine rv 8 rfl rfl rfl (q_assign (v := .int .i64 ((0 : Int))) rfl rfl) ?_
  refine ro_nil ?_
  refine wp_seq ?_
  refine wp_seq ?_
  refine wp_text [0, 1, 2, 3] rfl ?_
  refine rv 12 rfl rfl rfl (q_move (v := .pointer (v_1)) rfl rfl) ?_
  refine rv 13 rfl rfl rfl (q_move (v := .int .i64 (t_2)) rfl rfl) ?_
  refine ro_wp rfl (.free rfl) (wp_cl (d := (some 14)) rfl (q_call (k := 38) (l := [.pointer (v_1), .int .i64 (t_2)]) rfl ent38 rfl) h ?_)
  intro r6 w5 h
  refine rv 9 rfl rfl rfl (q_assign (v := .int .i64 (r6)) rfl rfl) ?_
  refine ro_nil ?_
  refine wp_seq ?_
  refine wp_text [0, 1] rfl ?_
  refine rv 15 rfl rfl rfl (q_move (v := .int .i64 (r6)) rfl rfl) ?_
  refine rv 16 rfl rfl rfl (q_neq (a := r6) (b := (0 : Int)) rfl rfl rfl) ?_
  refine ro_nil ?_
  refine wp_if (b := (r6 != (0 : Int))) rfl h (fun hb28 h => ?_) (fun hb28 h => ?_)
  · refine wp_seq ?_
    refine wp_text [0, 1] rfl ?_
    refine rv 17 rfl rfl rfl (q_move (v := .int .i64 (r6)) rfl rfl) ?_
    refine rv 8 rfl rfl rfl (q_assign (v := .int .i64 (r6)) rfl rfl) ?_
    refine ro_nil ?_
    refine wp_ret ?_
    exact ret_ok rfl (.cons (.tmp (v := .int .i64 (r6)) rfl) .nil) ⟨r6, rfl, h⟩
  · refine wp_skip ?_
    refine wp_seq ?_
    refine wp_text [0, 1, 2, 3, 4, 5, 6, 7, 8, 9, 10, 11, 12] rfl ?_
    refine rv 19 rfl rfl rfl (q_move (v := .pointer (v_1)) rfl rfl) ?_
    obtain ⟨a7, ha7, h⟩ := h
    refine rv 20 rfl rfl rfl (q_nilCheck (a := a7) rfl (congrArg Value.pointer ha7)) ?_
    refine rv 21 rfl rfl rfl (q_fieldAddr (a := a7) (off := 0) rfl Tryz.underlying35 rfl rfl ok30 (by decide) rfl) ?_
    refine rv 22 rfl rfl rfl (q_fieldAddr (a := (a7.add 0)) (off := 0) rfl Tryz.underlying30 rfl rfl ok28 (by decide) rfl) ?_
    obtain ⟨x8, hx8, h⟩ := h
    refine rv 23 rfl rfl rfl (q_load (T := tPtr) (u := x8) (a := ((a7.add 0).add 0)) rfl ok28 rfl hx8) ?_
    refine rv 24 rfl rfl rfl (q_move (v := .int .i64 (account_3)) rfl rfl) ?_
    refine ro_wp rfl (.free rfl) (wp_cl (d := (some 25)) rfl (q_call (k := 42) (l := [.pointer (x8), .int .i64 (account_3)]) rfl ent42 rfl) h ?_)
    intro r10 w9 h
    refine rv 18 rfl rfl rfl (q_move (v := (tTup2 T86 tBool).enc (r10)) rfl rfl) ?_
    refine rv 26 rfl rfl rfl (q_extract (vs := #[T86.enc (r10.1), .bool (r10.2)]) (v := T86.enc (r10.1)) rfl rfl rfl) ?_
    refine rv 27 rfl rfl rfl (q_extract (vs := #[T86.enc (r10.1), .bool (r10.2)]) (v := .bool (r10.2)) rfl rfl rfl) ?_
    obtain ⟨a11, w12, ha11, hw12, h⟩ := nw_open h
    refine rv 10 rfl rfl rfl (q_alloc (u := Z86) rfl ok87 inf87 ha11 hw12) ?_
    obtain ⟨w13, hw13, hrw13, h⟩ := st_open h
    refine ro_skip (d := none) rfl (.free rfl) rfl (q_store (T := T86) (u := r10.1) (a := a11) rfl ok87 rfl rfl hrw13 hw13) ?_
    refine rv 11 rfl rfl rfl (q_assign (v := .bool (r10.2)) rfl rfl) ?_
    refine ro_nil ?_
    refine wp_seq ?_
    refine wp_block ?_
    refine wp_seq ?_
    refine wp_text [0, 1, 2, 3] rfl ?_
    refine rv 29 rfl rfl rfl (q_move (v := .int .i64 (account_3)) rfl rfl) ?_
    refine ro_wp rfl (.free rfl) (wp_cl (d := (some 30)) rfl (q_call (k := 43) (l := [.int .i64 (account_3)]) rfl ent43 rfl) h ?_)
    intro r15 w14 h
    refine rv 31 rfl rfl rfl (q_not (b := r15) rfl rfl) ?_
    refine rv 28 rfl rfl rfl (q_assign (v := .bool ((!r15))) rfl rfl) ?_
    refine ro_nil ?_
    refine wp_if (b := (!r15)) rfl h (fun hb27 h => ?_) (fun hb27 h => ?_)
    · refine wp_seq ?_
      refine wp_text [0] rfl ?_
      refine rv 8 rfl rfl rfl (q_assign (v := .int .i64 ((153 : Int))) rfl rfl) ?_
      refine ro_nil ?_
      refine wp_ret ?_
      exact ret_ok rfl (.cons (.tmp (v := .int .i64 ((153 : Int))) rfl) .nil) ⟨(153 : Int), rfl, h⟩
    · refine wp_seq ?_
      refine wp_text [0, 1] rfl ?_
      refine rv 33 rfl rfl rfl (q_move (v := .bool (r10.2)) rfl rfl) ?_
      refine rv 32 rfl rfl rfl (q_assign (v := .bool (r10.2)) rfl rfl) ?_
      refine ro_nil ?_
      refine wp_if (b := r10.2) rfl h (fun hb26 h => ?_) (fun hb26 h => ?_)
      · refine wp_seq ?_
        refine wp_text [0] rfl ?_
        refine rv 8 rfl rfl rfl (q_assign (v := .int .i64 ((154 : Int))) rfl rfl) ?_
        refine ro_nil ?_
        refine wp_ret ?_
        exact ret_ok rfl (.cons (.tmp (v := .int .i64 ((154 : Int))) rfl) .nil) ⟨(154 : Int), rfl, h⟩
      · refine wp_seq ?_
        refine wp_text [0, 1, 2, 3] rfl ?_
        refine rv 35 rfl rfl rfl (q_move (v := .int .i64 (n_4)) rfl rfl) ?_
        refine ro_wp rfl (.free rfl) (wp_cl (d := (some 36)) rfl (q_call (k := 44) (l := [.int .i64 (n_4)]) rfl ent44 rfl) h ?_)
        intro r17 w16 h
        refine rv 37 rfl rfl rfl (q_neq (a := r17) (b := (0 : Int)) rfl rfl rfl) ?_
        refine rv 34 rfl rfl rfl (q_assign (v := .bool ((r17 != (0 : Int)))) rfl rfl) ?_
        refine ro_nil ?_
        refine wp_if (b := (r17 != (0 : Int))) rfl h (fun hb25 h => ?_) (fun hb25 h => ?_)
        · refine wp_seq ?_
          refine wp_text [0] rfl ?_
          refine rv 8 rfl rfl rfl (q_assign (v := .int .i64 ((155 : Int))) rfl rfl) ?_
          refine ro_nil ?_
          refine wp_ret ?_
          exact ret_ok rfl (.cons (.tmp (v := .int .i64 ((155 : Int))) rfl) .nil) ⟨(155 : Int), rfl, h⟩
        · refine wp_skip ?_
          refine wp_seq ?_
          refine wp_text [0, 1, 2, 3, 4, 5, 6, 7, 8, 9, 10] rfl ?_
          refine rv 38 rfl rfl rfl (q_move (v := .pointer (v_1)) rfl rfl) ?_
          refine rv 39 rfl rfl rfl (q_nilCheck (a := a7) rfl (congrArg Value.pointer ha7)) ?_
          refine rv 40 rfl rfl rfl (q_fieldAddr (a := a7) (off := 0) rfl Tryz.underlying35 rfl rfl ok30 (by decide) rfl) ?_
          refine rv 41 rfl rfl rfl (q_fieldAddr (a := (a7.add 0)) (off := 0) rfl Tryz.underlying30 rfl rfl ok28 (by decide) rfl) ?_
          obtain ⟨x18, hx18, h⟩ := h
          refine rv 42 rfl rfl rfl (q_load (T := tPtr) (u := x18) (a := ((a7.add 0).add 0)) rfl ok28 rfl hx18) ?_
          refine rv 43 rfl rfl rfl (q_move (v := .int .i64 (t_2)) rfl rfl) ?_
          refine rv 44 rfl rfl rfl (q_move (v := .int .i64 (account_3)) rfl rfl) ?_
          refine rv 45 rfl rfl rfl (q_move (v := .int .i64 (n_4)) rfl rfl) ?_
          refine rv 46 rfl rfl rfl (q_build63_0_1 (v0 := account_3) (v1 := n_4) rfl rfl rfl) ?_
          obtain ⟨a19, w20, ha19, hw20, h⟩ := nwS_open h
          refine rv 47 rfl rfl rfl (q_rowOf (T := T62) (xs := [(⟨account_3, n_4⟩ : S62)]) rfl Tryz.underlying36 ok63 inf63 rfl (by decide) (by decide) rfl ha19 hw20) ?_
          refine ro_wp rfl (.free rfl) (wp_cl (d := (some 48)) rfl (q_call (k := 30) (l := [.pointer (x18), .int .i64 (t_2), tSlc.enc ((⟨some a19, 1, 1⟩ : Slc))]) rfl ent30 rfl) h ?_)
          intro r22 w21 h
          refine ro_nil ?_
          refine wp_seq ?_
          refine wp_text [0, 1, 2] rfl ?_
          refine rv 49 rfl rfl rfl (q_move (v := .pointer (v_1)) rfl rfl) ?_
          refine rv 50 rfl rfl rfl (q_move (v := .int .i64 (t_2)) rfl rfl) ?_
          refine ro_wp rfl (.free rfl) (wp_cl (d := (some 51)) rfl (q_call (k := 33) (l := [.pointer (v_1), .int .i64 (t_2)]) rfl ent33 rfl) h ?_)
          intro r24 w23 h
          refine ro_nil ?_
          refine wp_seq ?_
          refine wp_text [0] rfl ?_
          refine rv 8 rfl rfl rfl (q_assign (v := .int .i64 ((0 : Int))) rfl rfl) ?_
          refine ro_nil ?_
          refine wp_ret ?_
          exact ret_ok rfl (.cons (.tmp (v := .int .i64 ((0 : Int))) rfl) .nil) ⟨(0 : Int), rfl, h⟩
def F24 (v_1 : (Option Addr)) (account_2 : Int) (at_3 : Int) (w : World) (R : (Int × Int) → World → Prop) : Prop :=
  cl Tryz.prog 43 [.int .i64 (account_2)] tBool w fun r5 w4 =>
  if (!r5) = true then (
    R ((0 : Int), (153 : Int)) w4
  ) else (
    ex (NC v_1) fun a6 =>
    ex (RdAt tPtr ((a6.add 0).add 0) w4) fun x7 =>
    cl Tryz.prog 45 [.pointer (x7), .int .i64 (account_2), .int .i64 (at_3)] (tTup2 T86 (tInt .i64)) w4 fun r9 w8 =>
    nw 87 T86 Z86 w8 fun a10 w11 =>
    st T86 a10 r9.1 w11 fun w12 =>
    dr w12 fun w13 =>
    ex (RdAt (tInt .i64) (a10.add 1) w13) fun x14 =>
    cl Tryz.prog 28 [.int .i64 (r9.2)] (tInt .i64) w13 fun r16 w15 =>
    kp ((RdAt (tInt .i64) (a10.add 1) w15) x14) <|
    R (x14, r16) w15
  )
theorem F24_ok {v_1 : (Option Addr)} {account_2 : Int} {at_3 : Int} {w : World} {R : (Int × Int) → World → Prop} (h : F24 v_1 account_2 at_3 w R) : cl Tryz.prog 24 [.pointer (v_1), .int .i64 (account_2), .int .i64 (at_3)] (tTup2 (tInt .i64) (tInt .i64)) w R := by
  unfold F24 at h
  refine calls_start 28 Tryz.func24 rfl rfl (Nat.le_of_ble_eq_true rfl) ?_
  refine wp_seq ?_
  refine wp_text [0, 1] rfl ?_
  refine rv 6 rfl rfl rfl (q_assign (v := .int .i64 ((0 : Int))) rfl rfl) ?_
  refine rv 7 rfl rfl rfl (q_assign (v := .int .i64 ((0 : Int))) rfl rfl) ?_
  refine ro_nil ?_
  refine wp_seq ?_
  refine wp_seq ?_
  refine wp_text [0, 1, 2] rfl ?_
  refine rv 10 rfl rfl rfl (q_move (v := .int .i64 (account_2)) rfl rfl) ?_
  refine ro_wp rfl (.free rfl) (wp_cl (d := (some 11)) rfl (q_call (k := 43) (l := [.int .i64 (account_2)]) rfl ent43 rfl) h ?_)
  intro r5 w4 h
  refine rv 12 rfl rfl rfl (q_not (b := r5) rfl rfl) ?_
  refine ro_nil ?_
  refine wp_if (b := (!r5)) rfl h (fun hb18 h => ?_) (fun hb18 h => ?_)
  · refine wp_seq ?_
    refine wp_text [0, 1] rfl ?_
    refine rv 6 rfl rfl rfl (q_assign (v := .int .i64 ((0 : Int))) rfl rfl) ?_
    refine rv 7 rfl rfl rfl (q_assign (v := .int .i64 ((153 : Int))) rfl rfl) ?_
    refine ro_nil ?_
    refine wp_ret ?_
    exact ret_ok rfl (.cons (.tmp (v := .int .i64 ((0 : Int))) rfl) (.cons (.tmp (v := .int .i64 ((153 : Int))) rfl) .nil)) ⟨((0 : Int), (153 : Int)), rfl, h⟩
  · refine wp_skip ?_
    refine wp_seq ?_
    refine wp_text [0, 1, 2, 3, 4, 5, 6, 7, 8, 9, 10, 11, 12, 13] rfl ?_
    refine rv 14 rfl rfl rfl (q_move (v := .pointer (v_1)) rfl rfl) ?_
    obtain ⟨a6, ha6, h⟩ := h
    refine rv 15 rfl rfl rfl (q_nilCheck (a := a6) rfl (congrArg Value.pointer ha6)) ?_
    refine rv 16 rfl rfl rfl (q_fieldAddr (a := a6) (off := 0) rfl Tryz.underlying35 rfl rfl ok30 (by decide) rfl) ?_
    refine rv 17 rfl rfl rfl (q_fieldAddr (a := (a6.add 0)) (off := 0) rfl Tryz.underlying30 rfl rfl ok28 (by decide) rfl) ?_
    obtain ⟨x7, hx7, h⟩ := h
    refine rv 18 rfl rfl rfl (q_load (T := tPtr) (u := x7) (a := ((a6.add 0).add 0)) rfl ok28 rfl hx7) ?_
    refine rv 19 rfl rfl rfl (q_move (v := .int .i64 (account_2)) rfl rfl) ?_
    refine rv 20 rfl rfl rfl (q_move (v := .int .i64 (at_3)) rfl rfl) ?_
    refine ro_wp rfl (.free rfl) (wp_cl (d := (some 21)) rfl (q_call (k := 45) (l := [.pointer (x7), .int .i64 (account_2), .int .i64 (at_3)]) rfl ent45 rfl) h ?_)
    intro r9 w8 h
    refine rv 13 rfl rfl rfl (q_move (v := (tTup2 T86 (tInt .i64)).enc (r9)) rfl rfl) ?_
    refine rv 22 rfl rfl rfl (q_extract (vs := #[T86.enc (r9.1), .int .i64 (r9.2)]) (v := T86.enc (r9.1)) rfl rfl rfl) ?_
    refine rv 23 rfl rfl rfl (q_extract (vs := #[T86.enc (r9.1), .int .i64 (r9.2)]) (v := .int .i64 (r9.2)) rfl rfl rfl) ?_
    obtain ⟨a10, w11, ha10, hw11, h⟩ := nw_open h
    refine rv 8 rfl rfl rfl (q_alloc (u := Z86) rfl ok87 inf87 ha10 hw11) ?_
    obtain ⟨w12, hw12, hrw12, h⟩ := st_open h
    refine ro_skip (d := none) rfl (.free rfl) rfl (q_store (T := T86) (u := r9.1) (a := a10) rfl ok87 rfl rfl hrw12 hw12) ?_
    refine rv 9 rfl rfl rfl (q_assign (v := .int .i64 (r9.2)) rfl rfl) ?_
    refine ro_nil ?_
    refine wp_seq ?_
    obtain ⟨w13, hw13, h⟩ := dr_open h
    refine wp_drawn 6 mixed rfl (by kernel_rfl) (by intro c a d v w h; cases d <;> exact h) hw13 (fun hD => ?_)
    refine rp 0 24 hD rfl rfl rfl (fun _ => q_fieldAddr (a := a10) (off := 1) rfl Tryz.underlying87 rfl rfl ok2 (by decide) rfl) ?_
    refine rp 2 26 hD rfl rfl rfl (fun _ => q_move (v := .int .i64 (r9.2)) rfl rfl) ?_
    obtain ⟨x14, hx14, h⟩ := h
    refine rd_read (i := 1) (d := (some 25)) (fun W => (RdAt (tInt .i64) (a10.add 1) W) x14) hD (by kernel_rfl) (by kernel_rfl) rfl (.free rfl) rfl (fun W hr => q_load (T := (tInt .i64)) (u := x14) (a := (a10.add 1)) rfl ok2 rfl hr) hx14 ?_
    refine rd_one (i := 3) (by kernel_rfl) ?_
    refine po_wp rfl (.free rfl) (wp_cl (d := (some 27)) rfl (q_call (k := 28) (l := [.int .i64 (r9.2)]) rfl ent28 rfl) h ?_)
    intro r16 w15 h
    obtain ⟨hk17, h⟩ := h
    refine ⟨(hk_keep (fun _ => hk17) hk_nil), ?_⟩
    refine rp 4 6 hD rfl rfl rfl (fun _ => q_assign (v := .int .i64 (x14)) rfl rfl) ?_
    refine rp 5 7 hD rfl rfl rfl (fun _ => q_assign (v := .int .i64 (r16)) rfl rfl) ?_
    refine rd_nil (by kernel_rfl) ?_
    refine wp_ret ?_
    exact ret_ok rfl (.cons (.tmp (v := .int .i64 (x14)) rfl) (.cons (.tmp (v := .int .i64 (r16)) rfl) .nil)) ⟨(x14, r16), rfl, h⟩
def F25 (v_1 : (Option Addr)) (mark_2 : Int) (w : World) (R : Int → World → Prop) : Prop :=
  ex (NC v_1) fun a3 =>
  ex (RdAt tPtr ((a3.add 0).add 0) w) fun x4 =>
  cl Tryz.prog 46 [.pointer (x4), .int .i64 (mark_2)] (tInt .i64) w fun r6 w5 =>
  cl Tryz.prog 28 [.int .i64 (r6)] (tInt .i64) w5 fun r8 w7 =>
  R r8 w7
theorem F25_ok {v_1 : (Option Addr)} {mark_2 : Int} {w : World} {R : Int → World → Prop} (h : F25 v_1 mark_2 w R) : cl Tryz.prog 25 [.pointer (v_1), .int .i64 (mark_2)] (tInt .i64) w R := by
  unfold F25 at h
  refine calls_start 13 Tryz.func25 rfl rfl (Nat.le_of_ble_eq_true rfl) ?_
  refine wp_seq ?_
  refine wp_text [0] rfl ?_
  refine rv 4 rfl rfl rfl (q_assign (v := .int .i64 ((0 : Int))) rfl rfl) ?_
  refine ro_nil ?_
  refine wp_seq ?_
  refine wp_text [0, 1, 2, 3, 4, 5, 6, 7, 8] rfl ?_
  refine rv 5 rfl rfl rfl (q_move (v := .pointer (v_1)) rfl rfl) ?_
  obtain ⟨a3, ha3, h⟩ := h
  refine rv 6 rfl rfl rfl (q_nilCheck (a := a3) rfl (congrArg Value.pointer ha3)) ?_
  refine rv 7 rfl rfl rfl (q_fieldAddr (a := a3) (off := 0) rfl Tryz.underlying35 rfl rfl ok30 (by decide) rfl) ?_
  refine rv 8 rfl rfl rfl (q_fieldAddr (a := (a3.add 0)) (off := 0) rfl Tryz.underlying30 rfl rfl ok28 (by decide) rfl) ?_
  obtain ⟨x4, hx4, h⟩ := h
  refine rv 9 rfl rfl rfl (q_load (T := tPtr) (u := x4) (a := ((a3.add 0).add 0)) rfl ok28 rfl hx4) ?_
  refine rv 10 rfl rfl rfl (q_move (v := .int .i64 (mark_2)) rfl rfl) ?_
  refine ro_wp rfl (.free rfl) (wp_cl (d := (some 11)) rfl (q_call (k := 46) (l := [.pointer (x4), .int .i64 (mark_2)]) rfl ent46 rfl) h ?_)
  intro r6 w5 h
  refine ro_wp rfl (.free rfl) (wp_cl (d := (some 12)) rfl (q_call (k := 28) (l := [.int .i64 (r6)]) rfl ent28 rfl) h ?_)
  intro r8 w7 h
  refine rv 4 rfl rfl rfl (q_assign (v := .int .i64 (r8)) rfl rfl) ?_
  refine ro_nil ?_
  refine wp_ret ?_
  exact ret_ok rfl (.cons (.tmp (v := .int .i64 (r8)) rfl) .nil) ⟨r8, rfl, h⟩
def F26 (s_1 : (Option Addr)) (w : World) (R : Int → World → Prop) : Prop :=
  ex (NC s_1) fun a2 =>
  ex (RdAt (tInt .i64) (a2.add 1) w) fun x3 =>
  R x3 w
theorem F26_ok {s_1 : (Option Addr)} {w : World} {R : Int → World → Prop} (h : F26 s_1 w R) : cl Tryz.prog 26 [.pointer (s_1)] (tInt .i64) w R := by
  unfold F26 at h
  refine calls_start 7 Tryz.func26 rfl rfl (Nat.le_of_ble_eq_true rfl) ?_
  refine wp_seq ?_
  refine wp_text [0] rfl ?_
  refine rv 2 rfl rfl rfl (q_assign (v := .int .i64 ((0 : Int))) rfl rfl) ?_
  refine ro_nil ?_
  refine wp_seq ?_
  refine wp_text [0, 1, 2, 3, 4] rfl ?_
  refine rv 3 rfl rfl rfl (q_move (v := .pointer (s_1)) rfl rfl) ?_
  obtain ⟨a2, ha2, h⟩ := h
  refine rv 4 rfl rfl rfl (q_nilCheck (a := a2) rfl (congrArg Value.pointer ha2)) ?_
  refine rv 5 rfl rfl rfl (q_fieldAddr (a := a2) (off := 1) rfl Tryz.underlying95 rfl rfl ok2 (by decide) rfl) ?_
  obtain ⟨x3, hx3, h⟩ := h
  refine rv 6 rfl rfl rfl (q_load (T := (tInt .i64)) (u := x3) (a := (a2.add 1)) rfl ok2 rfl hx3) ?_
  refine rv 2 rfl rfl rfl (q_assign (v := .int .i64 (x3)) rfl rfl) ?_
  refine ro_nil ?_
  refine wp_ret ?_
  exact ret_ok rfl (.cons (.tmp (v := .int .i64 (x3)) rfl) .nil) ⟨x3, rfl, h⟩
def F27_j2 (t_12 : Int) (l_15 : Slc) (w16 : World) (K14 : Slc × Int → World → Prop) (R : (Slc × Int) → World → Prop) : Prop :=
  K14 (l_15, (IntKind.i64.wrap (t_12 + (1 : Int)))) w16
def F27_l1 (at_2 : Int) (a5 : Addr) (r10 : Slc) (l_11 : Slc) (t_12 : Int) (w13 : World) (K14 : Slc × Int → World → Prop) (R : (Slc × Int) → World → Prop) : Prop :=
  if (decide (t_12 < (r10.len : Int))) = true then (
    ex (IxA r10 1 t_12) fun a17 =>
    ex (RdAt (tInt .i64) a17 w13) fun x18 =>
    ex (RdAt tMap (a5.add 0) w13) fun x19 =>
    ex (MapGet tPtr .i64 x19 x18 w13) fun m20 =>
    cl Tryz.prog 49 [.pointer ((m20.getD (none : Option Addr))), .int .i64 (at_2)] (tTup2 T86 (tInt .i64)) w13 fun r22 w21 =>
    nw 87 T86 Z86 w21 fun a23 w24 =>
    st T86 a23 r22.1 w24 fun w25 =>
    if (r22.2 == (0 : Int)) = true then (
      ex (RdAt (tInt .i64) (a23.add 1) w25) fun x26 =>
      apl 63 T62 2 16 l_11 [(⟨x18, x26⟩ : S62)] w25 fun r30 w29 =>
      F27_j2 t_12 r30 w29 K14 R
    ) else (
      F27_j2 t_12 l_11 w25 K14 R
    )
  ) else (
    R (l_11, (0 : Int)) w13
  )
def F27 (s_1 : (Option Addr)) (at_2 : Int) (w : World) (R : (Slc × Int) → World → Prop) : Prop :=
  cl Tryz.prog 47 [.pointer (s_1), .int .i64 (at_2)] (tInt .i64) w fun r4 w3 =>
  if (r4 != (0 : Int)) = true then (
    R ((⟨none, 0, 0⟩ : Slc), r4) w3
  ) else (
    ex (NC s_1) fun a5 =>
    ex (RdAt tMap (a5.add 0) w3) fun x6 =>
    cl Tryz.prog 48 [.map (x6)] tFun w3 fun r8 w7 =>
    cl Tryz.prog 34 [(r8).enc] tSlc w7 fun r10 w9 =>
    lp (fun (s : Slc × Int) w K => F27_l1 at_2 a5 r10 s.1 s.2 w K R) ((⟨none, 0, 0⟩ : Slc), (0 : Int)) w9
  )
theorem F27_ok {s_1 : (Option Addr)} {at_2 : Int} {w : World} {R : (Slc × Int) → World → Prop} (h : F27 s_1 at_2 w R) : cl Tryz.prog 27 [.pointer (s_1), .int .i64 (at_2)] (tTup2 tSlc (tInt .i64)) w R := by
  unfold F27 at h
  refine calls_start 51 Tryz.func27 rfl rfl (Nat.le_of_ble_eq_true rfl) ?_
  refine wp_seq ?_
  refine wp_text [0, 1] rfl ?_
  refine rv 4 rfl rfl rfl (q_assign (v := tSlc.enc ((⟨none, 0, 0⟩ : Slc))) rfl rfl) ?_
  refine rv 5 rfl rfl rfl (q_assign (v := .int .i64 ((0 : Int))) rfl rfl) ?_
  refine ro_nil ?_
  refine wp_seq ?_
  refine wp_seq ?_
  refine wp_text [0, 1, 2, 3] rfl ?_
  refine rv 12 rfl rfl rfl (q_move (v := .pointer (s_1)) rfl rfl) ?_
  refine rv 13 rfl rfl rfl (q_move (v := .int .i64 (at_2)) rfl rfl) ?_
  refine ro_wp rfl (.free rfl) (wp_cl (d := (some 14)) rfl (q_call (k := 47) (l := [.pointer (s_1), .int .i64 (at_2)]) rfl ent47 rfl) h ?_)
  intro r4 w3 h
  refine rv 6 rfl rfl rfl (q_assign (v := .int .i64 (r4)) rfl rfl) ?_
  refine ro_nil ?_
  refine wp_seq ?_
  refine wp_text [0, 1] rfl ?_
  refine rv 15 rfl rfl rfl (q_move (v := .int .i64 (r4)) rfl rfl) ?_
  refine rv 16 rfl rfl rfl (q_neq (a := r4) (b := (0 : Int)) rfl rfl rfl) ?_
  refine ro_nil ?_
  refine wp_if (b := (r4 != (0 : Int))) rfl h (fun hb33 h => ?_) (fun hb33 h => ?_)
  · refine wp_seq ?_
    refine wp_text [0, 1, 2] rfl ?_
    refine rv 17 rfl rfl rfl (q_move (v := .int .i64 (r4)) rfl rfl) ?_
    refine rv 4 rfl rfl rfl (q_assign (v := tSlc.enc ((⟨none, 0, 0⟩ : Slc))) rfl rfl) ?_
    refine rv 5 rfl rfl rfl (q_assign (v := .int .i64 (r4)) rfl rfl) ?_
    refine ro_nil ?_
    refine wp_ret ?_
    exact ret_ok rfl (.cons (.tmp (v := tSlc.enc ((⟨none, 0, 0⟩ : Slc))) rfl) (.cons (.tmp (v := .int .i64 (r4)) rfl) .nil)) ⟨((⟨none, 0, 0⟩ : Slc), r4), rfl, h⟩
  · refine wp_skip ?_
    refine wp_seq ?_
    refine wp_text [0] rfl ?_
    refine rv 7 rfl rfl rfl (q_assign (v := tSlc.enc ((⟨none, 0, 0⟩ : Slc))) rfl rfl) ?_
    refine ro_nil ?_
    refine wp_seq ?_
    refine wp_seq ?_
    refine wp_text [0, 1, 2, 3, 4, 5, 6, 7] rfl ?_
    refine rv 18 rfl rfl rfl (q_move (v := .pointer (s_1)) rfl rfl) ?_
    obtain ⟨a5, ha5, h⟩ := h
    refine rv 19 rfl rfl rfl (q_nilCheck (a := a5) rfl (congrArg Value.pointer ha5)) ?_
    refine rv 20 rfl rfl rfl (q_fieldAddr (a := a5) (off := 0) rfl Tryz.underlying95 rfl rfl ok93 (by decide) rfl) ?_
    obtain ⟨x6, hx6, h⟩ := h
    refine rv 21 rfl rfl rfl (q_load (T := tMap) (u := x6) (a := (a5.add 0)) rfl ok93 rfl hx6) ?_
    refine ro_wp rfl (.free rfl) (wp_cl (d := (some 22)) rfl (q_call (k := 48) (l := [.map (x6)]) rfl ent48 rfl) h ?_)
    intro r8 w7 h
    refine ro_wp rfl (.free rfl) (wp_cl (d := (some 23)) rfl (q_call (k := 34) (l := [(r8).enc]) rfl ent34 rfl) h ?_)
    intro r10 w9 h
    refine rv 24 rfl rfl rfl (q_len (s := r10) rfl Tryz.underlying77 rfl) ?_
    refine rv 25 rfl rfl rfl (q_move (v := .int .i64 ((0 : Int))) rfl rfl) ?_
    refine ro_nil ?_
    refine wp_block ?_
    refine loop_at (σ := Slc × Int) (fr := fun g (s : Slc × Int) => upd (upd (upd (upd (upd (upd (g) 0 (.pointer (s_1))) 1 (.int .i64 (at_2))) 23 (tSlc.enc (r10))) 24 (.int .i64 ((r10.len : Int)))) 7 (tSlc.enc (s.1))) 25 (.int .i64 (s.2))) (s0 := ((⟨none, 0, 0⟩ : Slc), (0 : Int))) (upd_step (upd_step (upd_step (upd_step (upd_step (upd_step rfl rfl) rfl) rfl) rfl) rfl) rfl) h ?_
    rintro ⟨l_11, t_12⟩ g w13 K14 h
    unfold F27_l1 at h
    refine wp_seq ?_
    refine wp_text [0] rfl ?_
    refine rv 26 rfl rfl rfl (q_lss (a := t_12) (b := (r10.len : Int)) rfl rfl rfl) ?_
    refine ro_nil ?_
    refine wp_seq ?_
    refine wp_if (b := (decide (t_12 < (r10.len : Int)))) rfl h (fun hb32 h => ?_) (fun hb32 h => ?_)
    · refine wp_skip ?_
      refine seq_join (σ := Slc) (J := fun (s : Slc) w => F27_j2 t_12 s w K14 R) (fr := fun g (s : Slc) => upd (upd (upd (upd (upd (upd (g) 0 (.pointer (s_1))) 1 (.int .i64 (at_2))) 23 (tSlc.enc (r10))) 24 (.int .i64 ((r10.len : Int)))) 25 (.int .i64 (t_12))) 7 (tSlc.enc (s))) ?_ ?_
      · rintro l_15 g w16 h
        unfold F27_j2 at h
        refine wp_text [0, 1] rfl ?_
        refine rv 49 rfl rfl rfl (q_add (a := t_12) (b := (1 : Int)) rfl rfl rfl) ?_
        refine rv 25 rfl rfl rfl (q_move (v := .int .i64 ((IntKind.i64.wrap (t_12 + (1 : Int))))) rfl rfl) ?_
        refine ro_nil ?_
        exact ⟨(l_15, (IntKind.i64.wrap (t_12 + (1 : Int)))), _, arr (upd_step (upd_step (upd_step (upd_step (upd_step (upd_step rfl rfl) rfl) rfl) rfl) rfl) rfl), h⟩
      · refine wp_block ?_
        refine wp_seq ?_
        refine wp_text [0, 1, 2] rfl ?_
        obtain ⟨a17, ha17, h⟩ := h
        refine rv 27 rfl rfl rfl (q_indexAddr (s := r10) (k := .i64) (i := t_12) rfl Tryz.underlying77 ok3 rfl rfl ha17) ?_
        obtain ⟨x18, hx18, h⟩ := h
        refine rv 28 rfl rfl rfl (q_load (T := (tInt .i64)) (u := x18) (a := a17) rfl ok3 rfl hx18) ?_
        refine rv 9 rfl rfl rfl (q_assign (v := .int .i64 (x18)) rfl rfl) ?_
        refine ro_nil ?_
        refine wp_seq ?_
        refine wp_text [0, 1, 2, 3, 4, 5, 6, 7, 8, 9, 10, 11, 12, 13] rfl ?_
        refine rv 30 rfl rfl rfl (q_move (v := .pointer (s_1)) rfl rfl) ?_
        refine rv 31 rfl rfl rfl (q_nilCheck (a := a5) rfl (congrArg Value.pointer ha5)) ?_
        refine rv 32 rfl rfl rfl (q_fieldAddr (a := a5) (off := 0) rfl Tryz.underlying95 rfl rfl ok93 (by decide) rfl) ?_
        obtain ⟨x19, hx19, h⟩ := h
        refine rv 33 rfl rfl rfl (q_load (T := tMap) (u := x19) (a := (a5.add 0)) rfl ok93 rfl hx19) ?_
        refine rv 34 rfl rfl rfl (q_move (v := .int .i64 (x18)) rfl rfl) ?_
        obtain ⟨m20, hm20, h⟩ := h
        refine rv 35 rfl rfl rfl (q_lookup (T := tPtr) (r := x19) (key := x18) (u := m20) (z := (none : Option Addr)) rfl Tryz.underlying93 Tryz.underlying3 (inf97) rfl rfl hm20) ?_
        refine rv 36 rfl rfl rfl (q_move (v := .int .i64 (at_2)) rfl rfl) ?_
        refine ro_wp rfl (.free rfl) (wp_cl (d := (some 37)) rfl (q_call (k := 49) (l := [.pointer ((m20.getD (none : Option Addr))), .int .i64 (at_2)]) rfl ent49 rfl) h ?_)
        intro r22 w21 h
        refine rv 29 rfl rfl rfl (q_move (v := (tTup2 T86 (tInt .i64)).enc (r22)) rfl rfl) ?_
        refine rv 38 rfl rfl rfl (q_extract (vs := #[T86.enc (r22.1), .int .i64 (r22.2)]) (v := T86.enc (r22.1)) rfl rfl rfl) ?_
        refine rv 39 rfl rfl rfl (q_extract (vs := #[T86.enc (r22.1), .int .i64 (r22.2)]) (v := .int .i64 (r22.2)) rfl rfl rfl) ?_
        obtain ⟨a23, w24, ha23, hw24, h⟩ := nw_open h
        refine rv 10 rfl rfl rfl (q_alloc (u := Z86) rfl ok87 inf87 ha23 hw24) ?_
        obtain ⟨w25, hw25, hrw25, h⟩ := st_open h
        refine ro_skip (d := none) rfl (.free rfl) rfl (q_store (T := T86) (u := r22.1) (a := a23) rfl ok87 rfl rfl hrw25 hw25) ?_
        refine rv 11 rfl rfl rfl (q_assign (v := .int .i64 (r22.2)) rfl rfl) ?_
        refine ro_nil ?_
        refine wp_seq ?_
        refine wp_text [0, 1] rfl ?_
        refine rv 40 rfl rfl rfl (q_move (v := .int .i64 (r22.2)) rfl rfl) ?_
        refine rv 41 rfl rfl rfl (q_eql (a := r22.2) (b := (0 : Int)) rfl rfl rfl) ?_
        refine ro_nil ?_
        refine wp_if (b := (r22.2 == (0 : Int))) rfl h (fun hb31 h => ?_) (fun hb31 h => ?_)
        · refine wp_text [0, 1, 2, 3, 4, 5, 6, 7] rfl ?_
          refine rv 42 rfl rfl rfl (q_move (v := tSlc.enc (l_11)) rfl rfl) ?_
          refine rv 43 rfl rfl rfl (q_move (v := .int .i64 (x18)) rfl rfl) ?_
          refine rv 44 rfl rfl rfl (q_fieldAddr (a := a23) (off := 1) rfl Tryz.underlying87 rfl rfl ok2 (by decide) rfl) ?_
          obtain ⟨x26, hx26, h⟩ := h
          refine rv 45 rfl rfl rfl (q_load (T := (tInt .i64)) (u := x26) (a := (a23.add 1)) rfl ok2 rfl hx26) ?_
          refine rv 46 rfl rfl rfl (q_build63_0_1 (v0 := x18) (v1 := x26) rfl rfl rfl) ?_
          obtain ⟨a27, w28, ha27, hw28, h⟩ := apl_open h
          refine rv 47 rfl rfl rfl (q_rowOf (T := T62) (xs := [(⟨x18, x26⟩ : S62)]) rfl Tryz.underlying36 ok63 inf63 rfl (by decide) (by decide) rfl ha27 hw28) ?_
          refine ro_wp rfl (.free rfl) (wp_append (d := (some 48)) (T := T62) rfl rfl Tryz.underlying36 ⟨_, Tryz.underlying36⟩ ok63 inf63 rfl rfl (Nat.lt_of_lt_of_le Nat.zero_lt_one (Nat.le_of_ble_eq_true rfl)) rfl rfl h ?_)
          intro r30 w29 h
          refine rv 7 rfl rfl rfl (q_assign (v := tSlc.enc (r30)) rfl rfl) ?_
          refine ro_nil ?_
          exact ⟨(r30), _, arr (upd_step (upd_step (upd_step (upd_step (upd_step (upd_step rfl rfl) rfl) rfl) rfl) rfl) rfl), h⟩
        · refine wp_skip ?_
          exact ⟨(l_11), _, arr (upd_step (upd_step (upd_step (upd_step (upd_step (upd_step rfl rfl) rfl) rfl) rfl) rfl) rfl), h⟩
    · refine wp_exit ?_
      refine wp_seq ?_
      refine wp_text [0, 1, 2] rfl ?_
      refine rv 50 rfl rfl rfl (q_move (v := tSlc.enc (l_11)) rfl rfl) ?_
      refine rv 4 rfl rfl rfl (q_assign (v := tSlc.enc (l_11)) rfl rfl) ?_
      refine rv 5 rfl rfl rfl (q_assign (v := .int .i64 ((0 : Int))) rfl rfl) ?_
      refine ro_nil ?_
      refine wp_ret ?_
      exact ret_ok rfl (.cons (.tmp (v := tSlc.enc (l_11)) rfl) (.cons (.tmp (v := .int .i64 ((0 : Int))) rfl) .nil)) ⟨(l_11, (0 : Int)), rfl, h⟩
end Go.Proofs.YtpdaapffkdejoaaGreat.Cf
namespace Go.Proofs.YtpdaapffkdejoaaGreat.Cf
open Go
set_option maxRecDepth 100000
set_option maxHeartbeats 1000000
set_option linter.unusedVariables false
set_option linter.unusedSimpArgs false
def F28 (e_1 : Int) (w : World) (R : Int → World → Prop) : Prop :=
  if (e_1 == (120 : Int)) = true then (
    R (151 : Int) w
  ) else (
    if (e_1 == (128 : Int)) = true then (
      R (164 : Int) w
    ) else (
      if (e_1 == (126 : Int)) = true then (
        R (165 : Int) w
      ) else (
        if (e_1 == (127 : Int)) = true then (
          R (159 : Int) w
        ) else (
          R e_1 w
        )
      )
    )
  )
theorem F28_ok {e_1 : Int} {w : World} {R : Int → World → Prop} (h : F28 e_1 w R) : cl Tryz.prog 28 [.int .i64 (e_1)] (tInt .i64) w R := by
  unfold F28 at h
  refine calls_start 13 Tryz.func28 rfl rfl (Nat.le_of_ble_eq_true rfl) ?_
  refine wp_seq ?_
  refine wp_text [0] rfl ?_
  refine rv 2 rfl rfl rfl (q_assign (v := .int .i64 ((0 : Int))) rfl rfl) ?_
  refine ro_nil ?_
  refine wp_seq ?_
  refine wp_seq ?_
  refine wp_text [0] rfl ?_
  refine rv 3 rfl rfl rfl (q_move (v := .int .i64 (e_1)) rfl rfl) ?_
  refine ro_nil ?_
  refine wp_block ?_
  refine wp_seq ?_
  refine wp_text [0, 1] rfl ?_
  refine rv 5 rfl rfl rfl (q_eql (a := e_1) (b := (120 : Int)) rfl rfl rfl) ?_
  refine rv 4 rfl rfl rfl (q_assign (v := .bool ((e_1 == (120 : Int)))) rfl rfl) ?_
  refine ro_nil ?_
  refine wp_if (b := (e_1 == (120 : Int))) rfl h (fun hb5 h => ?_) (fun hb5 h => ?_)
  · refine wp_seq ?_
    refine wp_text [0] rfl ?_
    refine rv 2 rfl rfl rfl (q_assign (v := .int .i64 ((151 : Int))) rfl rfl) ?_
    refine ro_nil ?_
    refine wp_ret ?_
    exact ret_ok rfl (.cons (.tmp (v := .int .i64 ((151 : Int))) rfl) .nil) ⟨(151 : Int), rfl, h⟩
  · refine wp_seq ?_
    refine wp_text [0, 1] rfl ?_
    refine rv 7 rfl rfl rfl (q_eql (a := e_1) (b := (128 : Int)) rfl rfl rfl) ?_
    refine rv 6 rfl rfl rfl (q_assign (v := .bool ((e_1 == (128 : Int)))) rfl rfl) ?_
    refine ro_nil ?_
    refine wp_if (b := (e_1 == (128 : Int))) rfl h (fun hb4 h => ?_) (fun hb4 h => ?_)
    · refine wp_seq ?_
      refine wp_text [0] rfl ?_
      refine rv 2 rfl rfl rfl (q_assign (v := .int .i64 ((164 : Int))) rfl rfl) ?_
      refine ro_nil ?_
      refine wp_ret ?_
      exact ret_ok rfl (.cons (.tmp (v := .int .i64 ((164 : Int))) rfl) .nil) ⟨(164 : Int), rfl, h⟩
    · refine wp_seq ?_
      refine wp_text [0, 1] rfl ?_
      refine rv 9 rfl rfl rfl (q_eql (a := e_1) (b := (126 : Int)) rfl rfl rfl) ?_
      refine rv 8 rfl rfl rfl (q_assign (v := .bool ((e_1 == (126 : Int)))) rfl rfl) ?_
      refine ro_nil ?_
      refine wp_if (b := (e_1 == (126 : Int))) rfl h (fun hb3 h => ?_) (fun hb3 h => ?_)
      · refine wp_seq ?_
        refine wp_text [0] rfl ?_
        refine rv 2 rfl rfl rfl (q_assign (v := .int .i64 ((165 : Int))) rfl rfl) ?_
        refine ro_nil ?_
        refine wp_ret ?_
        exact ret_ok rfl (.cons (.tmp (v := .int .i64 ((165 : Int))) rfl) .nil) ⟨(165 : Int), rfl, h⟩
      · refine wp_seq ?_
        refine wp_text [0, 1] rfl ?_
        refine rv 11 rfl rfl rfl (q_eql (a := e_1) (b := (127 : Int)) rfl rfl rfl) ?_
        refine rv 10 rfl rfl rfl (q_assign (v := .bool ((e_1 == (127 : Int)))) rfl rfl) ?_
        refine ro_nil ?_
        refine wp_if (b := (e_1 == (127 : Int))) rfl h (fun hb2 h => ?_) (fun hb2 h => ?_)
        · refine wp_seq ?_
          refine wp_text [0] rfl ?_
          refine rv 2 rfl rfl rfl (q_assign (v := .int .i64 ((159 : Int))) rfl rfl) ?_
          refine ro_nil ?_
          refine wp_ret ?_
          exact ret_ok rfl (.cons (.tmp (v := .int .i64 ((159 : Int))) rfl) .nil) ⟨(159 : Int), rfl, h⟩
        · refine wp_skip ?_
          refine wp_seq ?_
          refine wp_text [0, 1] rfl ?_
          refine rv 12 rfl rfl rfl (q_move (v := .int .i64 (e_1)) rfl rfl) ?_
          refine rv 2 rfl rfl rfl (q_assign (v := .int .i64 (e_1)) rfl rfl) ?_
          refine ro_nil ?_
          refine wp_ret ?_
          exact ret_ok rfl (.cons (.tmp (v := .int .i64 (e_1)) rfl) .nil) ⟨e_1, rfl, h⟩
def F29 (s_1 : (Option Addr)) (w : World) (R : Int → World → Prop) : Prop :=
  ex (NC s_1) fun a2 =>
  ex (RdAt (tInt .i64) (a2.add 2) w) fun x3 =>
  R x3 w
theorem F29_ok {s_1 : (Option Addr)} {w : World} {R : Int → World → Prop} (h : F29 s_1 w R) : cl Tryz.prog 29 [.pointer (s_1)] (tInt .i64) w R := by
  unfold F29 at h
  refine calls_start 7 Tryz.func29 rfl rfl (Nat.le_of_ble_eq_true rfl) ?_
  refine wp_seq ?_
  refine wp_text [0] rfl ?_
  refine rv 2 rfl rfl rfl (q_assign (v := .int .i64 ((0 : Int))) rfl rfl) ?_
  refine ro_nil ?_
  refine wp_seq ?_
  refine wp_text [0, 1, 2, 3, 4] rfl ?_
  refine rv 3 rfl rfl rfl (q_move (v := .pointer (s_1)) rfl rfl) ?_
  obtain ⟨a2, ha2, h⟩ := h
  refine rv 4 rfl rfl rfl (q_nilCheck (a := a2) rfl (congrArg Value.pointer ha2)) ?_
  refine rv 5 rfl rfl rfl (q_fieldAddr (a := a2) (off := 2) rfl Tryz.underlying95 rfl rfl ok2 (by decide) rfl) ?_
  obtain ⟨x3, hx3, h⟩ := h
  refine rv 6 rfl rfl rfl (q_load (T := (tInt .i64)) (u := x3) (a := (a2.add 2)) rfl ok2 rfl hx3) ?_
  refine rv 2 rfl rfl rfl (q_assign (v := .int .i64 (x3)) rfl rfl) ?_
  refine ro_nil ?_
  refine wp_ret ?_
  exact ret_ok rfl (.cons (.tmp (v := .int .i64 (x3)) rfl) .nil) ⟨x3, rfl, h⟩
def F30_j2 (t_2 : Int) (t_8 : Int) (a13 : Addr) (c_20 : (Option Addr)) (w21 : World) (K10 : Int → World → Prop) (R : Int → World → Prop) : Prop :=
  ex (RdAt (tInt .i64) (a13.add 1) w21) fun x22 =>
  cl Tryz.prog 52 [.pointer (c_20), .int .i64 (t_2), .int .i64 (x22)] (tInt .i64) w21 fun r24 w23 =>
  K10 ((IntKind.i64.wrap (t_8 + (1 : Int)))) w23
def F30_l1 (t_2 : Int) (l_3 : Slc) (a4 : Addr) (t_8 : Int) (w9 : World) (K10 : Int → World → Prop) (R : Int → World → Prop) : Prop :=
  if (decide (t_8 < (l_3.len : Int))) = true then (
    ex (IxA l_3 2 t_8) fun a11 =>
    ex (RdAt T62 a11 w9) fun x12 =>
    nw 63 T62 Z62 w9 fun a13 w14 =>
    st T62 a13 x12 w14 fun w15 =>
    dr w15 fun w16 =>
    ex (RdAt tMap (a4.add 0) w16) fun x17 =>
    ex (RdAt (tInt .i64) (a13.add 0) w16) fun x18 =>
    ex (MapGet tPtr .i64 x17 x18 w16) fun m19 =>
    if (!(((m19.getD (none : Option Addr), m19.isSome)).2)) = true then (
      cl Tryz.prog 51 [] tPtr w16 fun r26 w25 =>
      dr w25 fun w27 =>
      ex (RdAt tMap (a4.add 0) w27) fun x28 =>
      ex (RdAt (tInt .i64) (a13.add 0) w27) fun x29 =>
      mput tPtr .i64 x28 x29 r26 w27 fun w30 =>
      F30_j2 t_2 t_8 a13 r26 w30 K10 R
    ) else (
      F30_j2 t_2 t_8 a13 (((m19.getD (none : Option Addr), m19.isSome)).1) w16 K10 R
    )
  ) else (
    R (0 : Int) w9
  )
def F30 (s_1 : (Option Addr)) (t_2 : Int) (l_3 : Slc) (w : World) (R : Int → World → Prop) : Prop :=
  if ((decide (t_2 < (1 : Int))) || (decide (t_2 > (1125899906842624 : Int)))) = true then (
    R (120 : Int) w
  ) else (
    ex (NC s_1) fun a4 =>
    ex (RdAt (tInt .i64) (a4.add 1) w) fun x5 =>
    if (decide (t_2 ≤ x5)) = true then (
      R (121 : Int) w
    ) else (
      cl Tryz.prog 50 [.pointer (s_1), .int .i64 (t_2), tSlc.enc (l_3)] (tInt .i64) w fun r7 w6 =>
      if (r7 != (0 : Int)) = true then (
        R r7 w6
      ) else (
        lp (fun (s : Int) w K => F30_l1 t_2 l_3 a4 s w K R) ((0 : Int)) w6
      )
    )
  )
theorem F30_ok {s_1 : (Option Addr)} {t_2 : Int} {l_3 : Slc} {w : World} {R : Int → World → Prop} (h : F30 s_1 t_2 l_3 w R) : cl Tryz.prog 30 [.pointer (s_1), .int .i64 (t_2), tSlc.enc (l_3)] (tInt .i64) w R := by
  unfold F30 at h
  refine calls_start 65 Tryz.func30 rfl rfl (Nat.le_of_ble_eq_true rfl) ?_
  refine wp_seq ?_
  refine wp_text [0] rfl ?_
  refine rv 6 rfl rfl rfl (q_assign (v := .int .i64 ((0 : Int))) rfl rfl) ?_
  refine ro_nil ?_
  refine wp_seq ?_
  refine wp_block ?_
  refine wp_seq ?_
  refine wp_text [0, 1, 2, 3, 4, 5, 6] rfl ?_
  refine rv 13 rfl rfl rfl (q_move (v := .int .i64 (t_2)) rfl rfl) ?_
  refine rv 14 rfl rfl rfl (q_lss (a := t_2) (b := (1 : Int)) rfl rfl rfl) ?_
  refine rv 15 rfl rfl rfl (q_move (v := .bool ((decide (t_2 < (1 : Int))))) rfl rfl) ?_
  refine ro_gval (g := (!(decide (t_2 < (1 : Int))))) (d := (some 16)) rfl (.no 2 15 true (decide (t_2 < (1 : Int))) rfl rfl rfl rfl) rfl (fun hg => q_move (v := .int .i64 (t_2)) rfl rfl) ?_
  refine ro_gval (g := (!(decide (t_2 < (1 : Int))))) (d := (some 17)) rfl (.no 2 15 true (decide (t_2 < (1 : Int))) rfl rfl rfl rfl) rfl (fun hg => q_gtr (k := .i64) (a := t_2) (b := (1125899906842624 : Int)) rfl (gvb_yes hg) rfl) ?_
  refine rv 18 rfl rfl rfl (q_pickGF (a := (decide (t_2 < (1 : Int)))) (c := (decide (t_2 > (1125899906842624 : Int)))) rfl rfl rfl rfl) ?_
  refine rv 12 rfl rfl rfl (q_assign (v := .bool (((decide (t_2 < (1 : Int))) || (decide (t_2 > (1125899906842624 : Int)))))) rfl rfl) ?_
  refine ro_nil ?_
  refine wp_if (b := ((decide (t_2 < (1 : Int))) || (decide (t_2 > (1125899906842624 : Int))))) rfl h (fun hb35 h => ?_) (fun hb35 h => ?_)
  · refine wp_seq ?_
    refine wp_text [0] rfl ?_
    refine rv 6 rfl rfl rfl (q_assign (v := .int .i64 ((120 : Int))) rfl rfl) ?_
    refine ro_nil ?_
    refine wp_ret ?_
    exact ret_ok rfl (.cons (.tmp (v := .int .i64 ((120 : Int))) rfl) .nil) ⟨(120 : Int), rfl, h⟩
  · refine wp_seq ?_
    refine wp_text [0, 1, 2, 3, 4, 5, 6] rfl ?_
    refine rv 20 rfl rfl rfl (q_move (v := .int .i64 (t_2)) rfl rfl) ?_
    refine rv 21 rfl rfl rfl (q_move (v := .pointer (s_1)) rfl rfl) ?_
    obtain ⟨a4, ha4, h⟩ := h
    refine rv 22 rfl rfl rfl (q_nilCheck (a := a4) rfl (congrArg Value.pointer ha4)) ?_
    refine rv 23 rfl rfl rfl (q_fieldAddr (a := a4) (off := 1) rfl Tryz.underlying95 rfl rfl ok2 (by decide) rfl) ?_
    obtain ⟨x5, hx5, h⟩ := h
    refine rv 24 rfl rfl rfl (q_load (T := (tInt .i64)) (u := x5) (a := (a4.add 1)) rfl ok2 rfl hx5) ?_
    refine rv 25 rfl rfl rfl (q_leq (a := t_2) (b := x5) rfl rfl rfl) ?_
    refine rv 19 rfl rfl rfl (q_assign (v := .bool ((decide (t_2 ≤ x5)))) rfl rfl) ?_
    refine ro_nil ?_
    refine wp_if (b := (decide (t_2 ≤ x5))) rfl h (fun hb34 h => ?_) (fun hb34 h => ?_)
    · refine wp_seq ?_
      refine wp_text [0] rfl ?_
      refine rv 6 rfl rfl rfl (q_assign (v := .int .i64 ((121 : Int))) rfl rfl) ?_
      refine ro_nil ?_
      refine wp_ret ?_
      exact ret_ok rfl (.cons (.tmp (v := .int .i64 ((121 : Int))) rfl) .nil) ⟨(121 : Int), rfl, h⟩
    · refine wp_skip ?_
      refine wp_seq ?_
      refine wp_seq ?_
      refine wp_text [0, 1, 2, 3, 4] rfl ?_
      refine rv 26 rfl rfl rfl (q_move (v := .pointer (s_1)) rfl rfl) ?_
      refine rv 27 rfl rfl rfl (q_move (v := .int .i64 (t_2)) rfl rfl) ?_
      refine rv 28 rfl rfl rfl (q_move (v := tSlc.enc (l_3)) rfl rfl) ?_
      refine ro_wp rfl (.free rfl) (wp_cl (d := (some 29)) rfl (q_call (k := 50) (l := [.pointer (s_1), .int .i64 (t_2), tSlc.enc (l_3)]) rfl ent50 rfl) h ?_)
      intro r7 w6 h
      refine rv 7 rfl rfl rfl (q_assign (v := .int .i64 (r7)) rfl rfl) ?_
      refine ro_nil ?_
      refine wp_seq ?_
      refine wp_text [0, 1] rfl ?_
      refine rv 30 rfl rfl rfl (q_move (v := .int .i64 (r7)) rfl rfl) ?_
      refine rv 31 rfl rfl rfl (q_neq (a := r7) (b := (0 : Int)) rfl rfl rfl) ?_
      refine ro_nil ?_
      refine wp_if (b := (r7 != (0 : Int))) rfl h (fun hb33 h => ?_) (fun hb33 h => ?_)
      · refine wp_seq ?_
        refine wp_text [0, 1] rfl ?_
        refine rv 32 rfl rfl rfl (q_move (v := .int .i64 (r7)) rfl rfl) ?_
        refine rv 6 rfl rfl rfl (q_assign (v := .int .i64 (r7)) rfl rfl) ?_
        refine ro_nil ?_
        refine wp_ret ?_
        exact ret_ok rfl (.cons (.tmp (v := .int .i64 (r7)) rfl) .nil) ⟨r7, rfl, h⟩
      · refine wp_skip ?_
        refine wp_seq ?_
        refine wp_seq ?_
        refine wp_text [0, 1, 2] rfl ?_
        refine rv 33 rfl rfl rfl (q_move (v := tSlc.enc (l_3)) rfl rfl) ?_
        refine rv 34 rfl rfl rfl (q_len (s := l_3) rfl Tryz.underlying36 rfl) ?_
        refine rv 35 rfl rfl rfl (q_move (v := .int .i64 ((0 : Int))) rfl rfl) ?_
        refine ro_nil ?_
        refine wp_block ?_
        refine loop_at (σ := Int) (fr := fun g (s : Int) => upd (upd (upd (upd (upd (g) 0 (.pointer (s_1))) 1 (.int .i64 (t_2))) 33 (tSlc.enc (l_3))) 34 (.int .i64 ((l_3.len : Int)))) 35 (.int .i64 (s))) (s0 := ((0 : Int))) (upd_step (upd_step (upd_step (upd_step (upd_step rfl rfl) rfl) rfl) rfl) rfl) h ?_
        rintro t_8 g w9 K10 h
        unfold F30_l1 at h
        refine wp_seq ?_
        refine wp_text [0] rfl ?_
        refine rv 36 rfl rfl rfl (q_lss (a := t_8) (b := (l_3.len : Int)) rfl rfl rfl) ?_
        refine ro_nil ?_
        refine wp_seq ?_
        refine wp_if (b := (decide (t_8 < (l_3.len : Int)))) rfl h (fun hb32 h => ?_) (fun hb32 h => ?_)
        · refine wp_skip ?_
          refine wp_seq ?_
          refine wp_block ?_
          refine wp_seq ?_
          refine wp_text [0, 1, 2, 3] rfl ?_
          obtain ⟨a11, ha11, h⟩ := h
          refine rv 37 rfl rfl rfl (q_indexAddr (s := l_3) (k := .i64) (i := t_8) rfl Tryz.underlying36 ok63 rfl rfl ha11) ?_
          obtain ⟨x12, hx12, h⟩ := h
          refine rv 38 rfl rfl rfl (q_load (T := T62) (u := x12) (a := a11) rfl ok63 rfl hx12) ?_
          obtain ⟨a13, w14, ha13, hw14, h⟩ := nw_open h
          refine rv 9 rfl rfl rfl (q_alloc (u := Z62) rfl ok63 inf63 ha13 hw14) ?_
          obtain ⟨w15, hw15, hrw15, h⟩ := st_open h
          refine ro_skip (d := none) rfl (.free rfl) rfl (q_store (T := T62) (u := x12) (a := a13) rfl ok63 rfl rfl hrw15 hw15) ?_
          refine ro_nil ?_
          refine wp_seq ?_
          obtain ⟨w16, hw16, h⟩ := dr_open h
          refine wp_drawn 12 mixed rfl (by kernel_rfl) (by intro c a d v w h; cases d <;> exact h) hw16 (fun hD => ?_)
          refine rp 0 40 hD rfl rfl rfl (fun _ => q_move (v := .pointer (s_1)) rfl rfl) ?_
          refine rp 1 41 hD rfl rfl rfl (fun _ => q_nilCheck (a := a4) rfl (congrArg Value.pointer ha4)) ?_
          refine rp 2 42 hD rfl rfl rfl (fun _ => q_fieldAddr (a := a4) (off := 0) rfl Tryz.underlying95 rfl rfl ok93 (by decide) rfl) ?_
          refine rp 4 44 hD rfl rfl rfl (fun _ => q_fieldAddr (a := a13) (off := 0) rfl Tryz.underlying63 rfl rfl ok3 (by decide) rfl) ?_
          obtain ⟨x17, hx17, h⟩ := h
          refine rd_read (i := 3) (d := (some 43)) (fun W => (RdAt tMap (a4.add 0) W) x17) hD (by kernel_rfl) (by kernel_rfl) rfl (.free rfl) rfl (fun W hr => q_load (T := tMap) (u := x17) (a := (a4.add 0)) rfl ok93 rfl hr) hx17 ?_
          obtain ⟨x18, hx18, h⟩ := h
          refine rd_read (i := 5) (d := (some 45)) (fun W => (RdAt (tInt .i64) (a13.add 0) W) x18) hD (by kernel_rfl) (by kernel_rfl) rfl (.free rfl) rfl (fun W hr => q_load (T := (tInt .i64)) (u := x18) (a := (a13.add 0)) rfl ok3 rfl hr) hx18 ?_
          obtain ⟨m19, hm19, h⟩ := h
          refine rd_read (i := 6) (d := (some 46)) (fun W => (MapGet tPtr .i64 x17 x18 W) m19) hD (by kernel_rfl) (by kernel_rfl) rfl (.free rfl) rfl (fun W hr => q_lookup2 (T := tPtr) (r := x17) (key := x18) (u := m19) (z := (none : Option Addr)) rfl Tryz.underlying93 Tryz.underlying3 (inf97) rfl rfl hr) hm19 ?_
          refine rp 7 39 hD rfl rfl rfl (fun _ => q_move (v := (tTup2 tPtr tBool).enc (((m19.getD (none : Option Addr), m19.isSome)))) rfl rfl) ?_
          refine rp 8 47 hD rfl rfl rfl (fun _ => q_extract (vs := #[.pointer (((m19.getD (none : Option Addr), m19.isSome)).1), .bool (((m19.getD (none : Option Addr), m19.isSome)).2)]) (v := .pointer (((m19.getD (none : Option Addr), m19.isSome)).1)) rfl rfl rfl) ?_
          refine rp 9 48 hD rfl rfl rfl (fun _ => q_extract (vs := #[.pointer (((m19.getD (none : Option Addr), m19.isSome)).1), .bool (((m19.getD (none : Option Addr), m19.isSome)).2)]) (v := .bool (((m19.getD (none : Option Addr), m19.isSome)).2)) rfl rfl rfl) ?_
          refine rp 10 10 hD rfl rfl rfl (fun _ => q_assign (v := .pointer (((m19.getD (none : Option Addr), m19.isSome)).1)) rfl rfl) ?_
          refine rp 11 11 hD rfl rfl rfl (fun _ => q_assign (v := .bool (((m19.getD (none : Option Addr), m19.isSome)).2)) rfl rfl) ?_
          refine rd_nil (by kernel_rfl) ?_
          refine seq_join (σ := (Option Addr)) (J := fun (s : (Option Addr)) w => F30_j2 t_2 t_8 a13 s w K10 R) (fr := fun g (s : (Option Addr)) => upd (upd (upd (upd (upd (upd (upd (g) 0 (.pointer (s_1))) 1 (.int .i64 (t_2))) 9 (.pointer (some a13))) 33 (tSlc.enc (l_3))) 34 (.int .i64 ((l_3.len : Int)))) 35 (.int .i64 (t_8))) 10 (.pointer (s))) ?_ ?_
          · rintro c_20 g w21 h
            unfold F30_j2 at h
            refine wp_text [0, 1, 2, 3, 4] rfl ?_
            refine rv 59 rfl rfl rfl (q_move (v := .pointer (c_20)) rfl rfl) ?_
            refine rv 60 rfl rfl rfl (q_move (v := .int .i64 (t_2)) rfl rfl) ?_
            refine rv 61 rfl rfl rfl (q_fieldAddr (a := a13) (off := 1) rfl Tryz.underlying63 rfl rfl ok2 (by decide) rfl) ?_
            obtain ⟨x22, hx22, h⟩ := h
            refine rv 62 rfl rfl rfl (q_load (T := (tInt .i64)) (u := x22) (a := (a13.add 1)) rfl ok2 rfl hx22) ?_
            refine ro_wp rfl (.free rfl) (wp_cl (d := (some 63)) rfl (q_call (k := 52) (l := [.pointer (c_20), .int .i64 (t_2), .int .i64 (x22)]) rfl ent52 rfl) h ?_)
            intro r24 w23 h
            refine ro_nil ?_
            refine wp_text [0, 1] rfl ?_
            refine rv 64 rfl rfl rfl (q_add (a := t_8) (b := (1 : Int)) rfl rfl rfl) ?_
            refine rv 35 rfl rfl rfl (q_move (v := .int .i64 ((IntKind.i64.wrap (t_8 + (1 : Int))))) rfl rfl) ?_
            refine ro_nil ?_
            exact ⟨((IntKind.i64.wrap (t_8 + (1 : Int)))), _, arr (upd_step (upd_step (upd_step (upd_step (upd_step rfl rfl) rfl) rfl) rfl) rfl), h⟩
          · refine wp_seq ?_
            refine wp_text [0, 1] rfl ?_
            refine rv 49 rfl rfl rfl (q_move (v := .bool (((m19.getD (none : Option Addr), m19.isSome)).2)) rfl rfl) ?_
            refine rv 50 rfl rfl rfl (q_not (b := ((m19.getD (none : Option Addr), m19.isSome)).2) rfl rfl) ?_
            refine ro_nil ?_
            refine wp_if (b := (!(((m19.getD (none : Option Addr), m19.isSome)).2))) rfl h (fun hb31 h => ?_) (fun hb31 h => ?_)
            · refine wp_seq ?_
              refine wp_text [0, 1] rfl ?_
              refine ro_wp rfl (.free rfl) (wp_cl (d := (some 51)) rfl (q_call (k := 51) (l := []) rfl ent51 rfl) h ?_)
              intro r26 w25 h
              refine rv 10 rfl rfl rfl (q_assign (v := .pointer (r26)) rfl rfl) ?_
              refine ro_nil ?_
              obtain ⟨w27, hw27, h⟩ := dr_open h
              refine wp_drawn 8 mixed rfl (by kernel_rfl) (by intro c a d v w h; cases d <;> exact h) hw27 (fun hD => ?_)
              refine rp 0 52 hD rfl rfl rfl (fun _ => q_move (v := .pointer (s_1)) rfl rfl) ?_
              refine rp 1 53 hD rfl rfl rfl (fun _ => q_nilCheck (a := a4) rfl (congrArg Value.pointer ha4)) ?_
              refine rp 2 54 hD rfl rfl rfl (fun _ => q_fieldAddr (a := a4) (off := 0) rfl Tryz.underlying95 rfl rfl ok93 (by decide) rfl) ?_
              refine rp 4 56 hD rfl rfl rfl (fun _ => q_fieldAddr (a := a13) (off := 0) rfl Tryz.underlying63 rfl rfl ok3 (by decide) rfl) ?_
              refine rp 6 58 hD rfl rfl rfl (fun _ => q_move (v := .pointer (r26)) rfl rfl) ?_
              obtain ⟨x28, hx28, h⟩ := h
              refine rd_read (i := 3) (d := (some 55)) (fun W => (RdAt tMap (a4.add 0) W) x28) hD (by kernel_rfl) (by kernel_rfl) rfl (.free rfl) rfl (fun W hr => q_load (T := tMap) (u := x28) (a := (a4.add 0)) rfl ok93 rfl hr) hx28 ?_
              obtain ⟨x29, hx29, h⟩ := h
              refine rd_read (i := 5) (d := (some 57)) (fun W => (RdAt (tInt .i64) (a13.add 0) W) x29) hD (by kernel_rfl) (by kernel_rfl) rfl (.free rfl) rfl (fun W hr => q_load (T := (tInt .i64)) (u := x29) (a := (a13.add 0)) rfl ok3 rfl hr) hx29 ?_
              refine rd_one (i := 7) (by kernel_rfl) ?_
              refine po_wp rfl (.free rfl) (wp_mput (T := tPtr) (r := x28) (key := x29) (v := r26) (d := none) rfl (.inl rfl) Tryz.underlying93 Tryz.underlying3 rfl rfl rfl h ?_)
              intro w30 h
              refine ⟨(hk_wait (by kernel_rfl) (hk_wait (by kernel_rfl) hk_nil)), ?_⟩
              refine rd_nil (by kernel_rfl) ?_
              exact ⟨(r26), _, arr (upd_step (upd_step (upd_step (upd_step (upd_step (upd_step (upd_step rfl rfl) rfl) rfl) rfl) rfl) rfl) rfl), h⟩
            · refine wp_skip ?_
              exact ⟨(((m19.getD (none : Option Addr), m19.isSome)).1), _, arr (upd_step (upd_step (upd_step (upd_step (upd_step (upd_step (upd_step rfl rfl) rfl) rfl) rfl) rfl) rfl) rfl), h⟩
        · refine wp_exit ?_
          refine wp_seq ?_
          refine wp_text [0] rfl ?_
          refine rv 6 rfl rfl rfl (q_assign (v := .int .i64 ((0 : Int))) rfl rfl) ?_
          refine ro_nil ?_
          refine wp_ret ?_
          exact ret_ok rfl (.cons (.tmp (v := .int .i64 ((0 : Int))) rfl) .nil) ⟨(0 : Int), rfl, h⟩
def F31_j1 (l_23 : Slc) (w24 : World) (R : Slc → World → Prop) : Prop :=
  R l_23 w24
def F31 (v_1 : (Option Addr)) (h_2 : S54) (w : World) (R : Slc → World → Prop) : Prop :=
  nw 55 T54 h_2 w fun a3 w4 =>
  ex (RdAt (tInt .i64) ((a3.add 0).add 1) w4) fun x5 =>
  ex (NC v_1) fun a6 =>
  ex (RdAt tPtr ((a6.add 0).add 0) w4) fun x7 =>
  cl Tryz.prog 42 [.pointer (x7), .int .i64 (x5)] (tTup2 T86 tBool) w4 fun r9 w8 =>
  nw 87 T86 Z86 w8 fun a10 w11 =>
  st T86 a10 r9.1 w11 fun w12 =>
  ex (RdAt tBool ((a3.add 0).add 3) w12) fun x13 =>
  if (!x13) = true then (
    ex (RdAt (tInt .i64) (a10.add 1) w12) fun x14 =>
    ex (RdAt (tInt .i64) ((a3.add 0).add 2) w12) fun x15 =>
    nwS 63 T62 [(⟨x5, (IntKind.i64.wrap (x14 + x15))⟩ : S62)] w12 fun a16 w17 =>
    R (⟨some a16, 1, 1⟩ : Slc) w17
  ) else (
    ex (RdAt (tInt .i64) (a10.add 1) w12) fun x18 =>
    ex (RdAt (tInt .i64) ((a3.add 0).add 2) w12) fun x19 =>
    ex (RdAt (tInt .i64) (a3.add 5) w12) fun x20 =>
    nwS 63 T62 [(⟨x5, (IntKind.i64.wrap ((IntKind.i64.wrap (x18 - x19)) - x20))⟩ : S62)] w12 fun a21 w22 =>
    ex (RdAt (tInt .i64) (a3.add 5) w22) fun x25 =>
    if (decide (x25 > (0 : Int))) = true then (
      ex (RdAt tPtr ((a6.add 0).add 0) w22) fun x26 =>
      cl Tryz.prog 42 [.pointer (x26), .int .i64 ((IntKind.i64.wrap ((4096 : Int) + x5)))] (tTup2 T86 tBool) w22 fun r28 w27 =>
      nw 87 T86 Z86 w27 fun a29 w30 =>
      st T86 a29 r28.1 w30 fun w31 =>
      ex (RdAt (tInt .i64) (a29.add 1) w31) fun x32 =>
      ex (RdAt (tInt .i64) (a3.add 5) w31) fun x33 =>
      apl 63 T62 2 16 (⟨some a21, 1, 1⟩ : Slc) [(⟨(IntKind.i64.wrap ((4096 : Int) + x5)), (IntKind.i64.wrap (x32 + x33))⟩ : S62)] w31 fun r37 w36 =>
      F31_j1 r37 w36 R
    ) else (
      F31_j1 (⟨some a21, 1, 1⟩ : Slc) w22 R
    )
  )
theorem F31_ok {v_1 : (Option Addr)} {h_2 : S54} {w : World} {R : Slc → World → Prop} (h : F31 v_1 h_2 w R) : cl Tryz.prog 31 [.pointer (v_1), T54.enc (h_2)] tSlc w R := by
  unfold F31 at h
  refine calls_start 75 Tryz.func31 rfl rfl (Nat.le_of_ble_eq_true rfl) ?_
  refine wp_seq ?_
  refine wp_text [0, 1] rfl ?_
  obtain ⟨a3, w4, ha3, hw4, h⟩ := nw_open h
  refine rv 3 rfl rfl rfl (q_box (u := h_2) rfl ok55 rfl ha3 hw4) ?_
  refine rv 4 rfl rfl rfl (q_assign (v := tSlc.enc ((⟨none, 0, 0⟩ : Slc))) rfl rfl) ?_
  refine ro_nil ?_
  refine wp_seq ?_
  refine wp_text [0, 1, 2, 3] rfl ?_
  refine rv 11 rfl rfl rfl (q_fieldAddr (a := a3) (off := 0) rfl Tryz.underlying55 rfl rfl ok53 (by decide) rfl) ?_
  refine rv 12 rfl rfl rfl (q_fieldAddr (a := (a3.add 0)) (off := 1) rfl Tryz.underlying53 rfl rfl ok3 (by decide) rfl) ?_
  obtain ⟨x5, hx5, h⟩ := h
  refine rv 13 rfl rfl rfl (q_load (T := (tInt .i64)) (u := x5) (a := ((a3.add 0).add 1)) rfl ok3 rfl hx5) ?_
  refine rv 5 rfl rfl rfl (q_assign (v := .int .i64 (x5)) rfl rfl) ?_
  refine ro_nil ?_
  refine wp_seq ?_
  refine wp_text [0, 1, 2, 3, 4, 5, 6, 7, 8, 9, 10, 11, 12] rfl ?_
  refine rv 15 rfl rfl rfl (q_move (v := .pointer (v_1)) rfl rfl) ?_
  obtain ⟨a6, ha6, h⟩ := h
  refine rv 16 rfl rfl rfl (q_nilCheck (a := a6) rfl (congrArg Value.pointer ha6)) ?_
  refine rv 17 rfl rfl rfl (q_fieldAddr (a := a6) (off := 0) rfl Tryz.underlying35 rfl rfl ok30 (by decide) rfl) ?_
  refine rv 18 rfl rfl rfl (q_fieldAddr (a := (a6.add 0)) (off := 0) rfl Tryz.underlying30 rfl rfl ok28 (by decide) rfl) ?_
  obtain ⟨x7, hx7, h⟩ := h
  refine rv 19 rfl rfl rfl (q_load (T := tPtr) (u := x7) (a := ((a6.add 0).add 0)) rfl ok28 rfl hx7) ?_
  refine rv 20 rfl rfl rfl (q_move (v := .int .i64 (x5)) rfl rfl) ?_
  refine ro_wp rfl (.free rfl) (wp_cl (d := (some 21)) rfl (q_call (k := 42) (l := [.pointer (x7), .int .i64 (x5)]) rfl ent42 rfl) h ?_)
  intro r9 w8 h
  refine rv 14 rfl rfl rfl (q_move (v := (tTup2 T86 tBool).enc (r9)) rfl rfl) ?_
  refine rv 22 rfl rfl rfl (q_extract (vs := #[T86.enc (r9.1), .bool (r9.2)]) (v := T86.enc (r9.1)) rfl rfl rfl) ?_
  refine rv 23 rfl rfl rfl (q_extract (vs := #[T86.enc (r9.1), .bool (r9.2)]) (v := .bool (r9.2)) rfl rfl rfl) ?_
  obtain ⟨a10, w11, ha10, hw11, h⟩ := nw_open h
  refine rv 6 rfl rfl rfl (q_alloc (u := Z86) rfl ok87 inf87 ha10 hw11) ?_
  obtain ⟨w12, hw12, hrw12, h⟩ := st_open h
  refine ro_skip (d := none) rfl (.free rfl) rfl (q_store (T := T86) (u := r9.1) (a := a10) rfl ok87 rfl rfl hrw12 hw12) ?_
  refine rv 7 rfl rfl rfl (q_assign (v := .bool (r9.2)) rfl rfl) ?_
  refine ro_nil ?_
  refine wp_seq ?_
  refine wp_seq ?_
  refine wp_text [0, 1, 2, 3] rfl ?_
  refine rv 24 rfl rfl rfl (q_fieldAddr (a := a3) (off := 0) rfl Tryz.underlying55 rfl rfl ok53 (by decide) rfl) ?_
  refine rv 25 rfl rfl rfl (q_fieldAddr (a := (a3.add 0)) (off := 3) rfl Tryz.underlying53 rfl rfl ok4 (by decide) rfl) ?_
  obtain ⟨x13, hx13, h⟩ := h
  refine rv 26 rfl rfl rfl (q_load (T := tBool) (u := x13) (a := ((a3.add 0).add 3)) rfl ok4 rfl hx13) ?_
  refine rv 27 rfl rfl rfl (q_not (b := x13) rfl rfl) ?_
  refine ro_nil ?_
  refine wp_if (b := (!x13)) rfl h (fun hb39 h => ?_) (fun hb39 h => ?_)
  · refine wp_seq ?_
    refine wp_text [0, 1, 2, 3, 4, 5, 6, 7, 8, 9] rfl ?_
    refine rv 28 rfl rfl rfl (q_move (v := .int .i64 (x5)) rfl rfl) ?_
    refine rv 29 rfl rfl rfl (q_fieldAddr (a := a10) (off := 1) rfl Tryz.underlying87 rfl rfl ok2 (by decide) rfl) ?_
    obtain ⟨x14, hx14, h⟩ := h
    refine rv 30 rfl rfl rfl (q_load (T := (tInt .i64)) (u := x14) (a := (a10.add 1)) rfl ok2 rfl hx14) ?_
    refine rv 31 rfl rfl rfl (q_fieldAddr (a := a3) (off := 0) rfl Tryz.underlying55 rfl rfl ok53 (by decide) rfl) ?_
    refine rv 32 rfl rfl rfl (q_fieldAddr (a := (a3.add 0)) (off := 2) rfl Tryz.underlying53 rfl rfl ok2 (by decide) rfl) ?_
    obtain ⟨x15, hx15, h⟩ := h
    refine rv 33 rfl rfl rfl (q_load (T := (tInt .i64)) (u := x15) (a := ((a3.add 0).add 2)) rfl ok2 rfl hx15) ?_
    refine rv 34 rfl rfl rfl (q_add (a := x14) (b := x15) rfl rfl rfl) ?_
    refine rv 35 rfl rfl rfl (q_build63_0_1 (v0 := x5) (v1 := (IntKind.i64.wrap (x14 + x15))) rfl rfl rfl) ?_
    obtain ⟨a16, w17, ha16, hw17, h⟩ := nwS_open h
    refine rv 36 rfl rfl rfl (q_rowOf (T := T62) (xs := [(⟨x5, (IntKind.i64.wrap (x14 + x15))⟩ : S62)]) rfl Tryz.underlying36 ok63 inf63 rfl (by decide) (by decide) rfl ha16 hw17) ?_
    refine rv 4 rfl rfl rfl (q_assign (v := tSlc.enc ((⟨some a16, 1, 1⟩ : Slc))) rfl rfl) ?_
    refine ro_nil ?_
    refine wp_ret ?_
    exact ret_ok rfl (.cons (.tmp (v := tSlc.enc ((⟨some a16, 1, 1⟩ : Slc))) rfl) .nil) ⟨(⟨some a16, 1, 1⟩ : Slc), rfl, h⟩
  · refine wp_skip ?_
    refine wp_seq ?_
    refine wp_text [0, 1, 2, 3, 4, 5, 6, 7, 8, 9, 10, 11, 12] rfl ?_
    refine rv 37 rfl rfl rfl (q_move (v := .int .i64 (x5)) rfl rfl) ?_
    refine rv 38 rfl rfl rfl (q_fieldAddr (a := a10) (off := 1) rfl Tryz.underlying87 rfl rfl ok2 (by decide) rfl) ?_
    obtain ⟨x18, hx18, h⟩ := h
    refine rv 39 rfl rfl rfl (q_load (T := (tInt .i64)) (u := x18) (a := (a10.add 1)) rfl ok2 rfl hx18) ?_
    refine rv 40 rfl rfl rfl (q_fieldAddr (a := a3) (off := 0) rfl Tryz.underlying55 rfl rfl ok53 (by decide) rfl) ?_
    refine rv 41 rfl rfl rfl (q_fieldAddr (a := (a3.add 0)) (off := 2) rfl Tryz.underlying53 rfl rfl ok2 (by decide) rfl) ?_
    obtain ⟨x19, hx19, h⟩ := h
    refine rv 42 rfl rfl rfl (q_load (T := (tInt .i64)) (u := x19) (a := ((a3.add 0).add 2)) rfl ok2 rfl hx19) ?_
    refine rv 43 rfl rfl rfl (q_sub (a := x18) (b := x19) rfl rfl rfl) ?_
    refine rv 44 rfl rfl rfl (q_fieldAddr (a := a3) (off := 5) rfl Tryz.underlying55 rfl rfl ok2 (by decide) rfl) ?_
    obtain ⟨x20, hx20, h⟩ := h
    refine rv 45 rfl rfl rfl (q_load (T := (tInt .i64)) (u := x20) (a := (a3.add 5)) rfl ok2 rfl hx20) ?_
    refine rv 46 rfl rfl rfl (q_sub (a := (IntKind.i64.wrap (x18 - x19))) (b := x20) rfl rfl rfl) ?_
    refine rv 47 rfl rfl rfl (q_build63_0_1 (v0 := x5) (v1 := (IntKind.i64.wrap ((IntKind.i64.wrap (x18 - x19)) - x20))) rfl rfl rfl) ?_
    obtain ⟨a21, w22, ha21, hw22, h⟩ := nwS_open h
    refine rv 48 rfl rfl rfl (q_rowOf (T := T62) (xs := [(⟨x5, (IntKind.i64.wrap ((IntKind.i64.wrap (x18 - x19)) - x20))⟩ : S62)]) rfl Tryz.underlying36 ok63 inf63 rfl (by decide) (by decide) rfl ha21 hw22) ?_
    refine rv 8 rfl rfl rfl (q_assign (v := tSlc.enc ((⟨some a21, 1, 1⟩ : Slc))) rfl rfl) ?_
    refine ro_nil ?_
    refine seq_join (σ := Slc) (J := fun (s : Slc) w => F31_j1 s w R) (fr := fun g (s : Slc) => upd (g) 8 (tSlc.enc (s))) ?_ ?_
    · rintro l_23 g w24 h
      unfold F31_j1 at h
      refine wp_seq ?_
      refine wp_text [0, 1] rfl ?_
      refine rv 74 rfl rfl rfl (q_move (v := tSlc.enc (l_23)) rfl rfl) ?_
      refine rv 4 rfl rfl rfl (q_assign (v := tSlc.enc (l_23)) rfl rfl) ?_
      refine ro_nil ?_
      refine wp_ret ?_
      exact ret_ok rfl (.cons (.tmp (v := tSlc.enc (l_23)) rfl) .nil) ⟨l_23, rfl, h⟩
    · refine wp_seq ?_
      refine wp_text [0, 1, 2] rfl ?_
      refine rv 49 rfl rfl rfl (q_fieldAddr (a := a3) (off := 5) rfl Tryz.underlying55 rfl rfl ok2 (by decide) rfl) ?_
      obtain ⟨x25, hx25, h⟩ := h
      refine rv 50 rfl rfl rfl (q_load (T := (tInt .i64)) (u := x25) (a := (a3.add 5)) rfl ok2 rfl hx25) ?_
      refine rv 51 rfl rfl rfl (q_gtr (a := x25) (b := (0 : Int)) rfl rfl rfl) ?_
      refine ro_nil ?_
      refine wp_if (b := (decide (x25 > (0 : Int)))) rfl h (fun hb38 h => ?_) (fun hb38 h => ?_)
      · refine wp_seq ?_
        refine wp_text [0, 1, 2, 3, 4, 5, 6, 7, 8, 9, 10, 11, 12, 13] rfl ?_
        refine rv 53 rfl rfl rfl (q_move (v := .pointer (v_1)) rfl rfl) ?_
        refine rv 54 rfl rfl rfl (q_nilCheck (a := a6) rfl (congrArg Value.pointer ha6)) ?_
        refine rv 55 rfl rfl rfl (q_fieldAddr (a := a6) (off := 0) rfl Tryz.underlying35 rfl rfl ok30 (by decide) rfl) ?_
        refine rv 56 rfl rfl rfl (q_fieldAddr (a := (a6.add 0)) (off := 0) rfl Tryz.underlying30 rfl rfl ok28 (by decide) rfl) ?_
        obtain ⟨x26, hx26, h⟩ := h
        refine rv 57 rfl rfl rfl (q_load (T := tPtr) (u := x26) (a := ((a6.add 0).add 0)) rfl ok28 rfl hx26) ?_
        refine rv 58 rfl rfl rfl (q_move (v := .int .i64 (x5)) rfl rfl) ?_
        refine rv 59 rfl rfl rfl (q_add (a := (4096 : Int)) (b := x5) rfl rfl rfl) ?_
        refine ro_wp rfl (.free rfl) (wp_cl (d := (some 60)) rfl (q_call (k := 42) (l := [.pointer (x26), .int .i64 ((IntKind.i64.wrap ((4096 : Int) + x5)))]) rfl ent42 rfl) h ?_)
        intro r28 w27 h
        refine rv 52 rfl rfl rfl (q_move (v := (tTup2 T86 tBool).enc (r28)) rfl rfl) ?_
        refine rv 61 rfl rfl rfl (q_extract (vs := #[T86.enc (r28.1), .bool (r28.2)]) (v := T86.enc (r28.1)) rfl rfl rfl) ?_
        refine rv 62 rfl rfl rfl (q_extract (vs := #[T86.enc (r28.1), .bool (r28.2)]) (v := .bool (r28.2)) rfl rfl rfl) ?_
        obtain ⟨a29, w30, ha29, hw30, h⟩ := nw_open h
        refine rv 9 rfl rfl rfl (q_alloc (u := Z86) rfl ok87 inf87 ha29 hw30) ?_
        obtain ⟨w31, hw31, hrw31, h⟩ := st_open h
        refine ro_skip (d := none) rfl (.free rfl) rfl (q_store (T := T86) (u := r28.1) (a := a29) rfl ok87 rfl rfl hrw31 hw31) ?_
        refine rv 10 rfl rfl rfl (q_assign (v := .bool (r28.2)) rfl rfl) ?_
        refine ro_nil ?_
        refine wp_text [0, 1, 2, 3, 4, 5, 6, 7, 8, 9, 10, 11] rfl ?_
        refine rv 63 rfl rfl rfl (q_move (v := tSlc.enc ((⟨some a21, 1, 1⟩ : Slc))) rfl rfl) ?_
        refine rv 64 rfl rfl rfl (q_move (v := .int .i64 (x5)) rfl rfl) ?_
        refine rv 65 rfl rfl rfl (q_add (a := (4096 : Int)) (b := x5) rfl rfl rfl) ?_
        refine rv 66 rfl rfl rfl (q_fieldAddr (a := a29) (off := 1) rfl Tryz.underlying87 rfl rfl ok2 (by decide) rfl) ?_
        obtain ⟨x32, hx32, h⟩ := h
        refine rv 67 rfl rfl rfl (q_load (T := (tInt .i64)) (u := x32) (a := (a29.add 1)) rfl ok2 rfl hx32) ?_
        refine rv 68 rfl rfl rfl (q_fieldAddr (a := a3) (off := 5) rfl Tryz.underlying55 rfl rfl ok2 (by decide) rfl) ?_
        obtain ⟨x33, hx33, h⟩ := h
        refine rv 69 rfl rfl rfl (q_load (T := (tInt .i64)) (u := x33) (a := (a3.add 5)) rfl ok2 rfl hx33) ?_
        refine rv 70 rfl rfl rfl (q_add (a := x32) (b := x33) rfl rfl rfl) ?_
        refine rv 71 rfl rfl rfl (q_build63_0_1 (v0 := (IntKind.i64.wrap ((4096 : Int) + x5))) (v1 := (IntKind.i64.wrap (x32 + x33))) rfl rfl rfl) ?_
        obtain ⟨a34, w35, ha34, hw35, h⟩ := apl_open h
        refine rv 72 rfl rfl rfl (q_rowOf (T := T62) (xs := [(⟨(IntKind.i64.wrap ((4096 : Int) + x5)), (IntKind.i64.wrap (x32 + x33))⟩ : S62)]) rfl Tryz.underlying36 ok63 inf63 rfl (by decide) (by decide) rfl ha34 hw35) ?_
        refine ro_wp rfl (.free rfl) (wp_append (d := (some 73)) (T := T62) rfl rfl Tryz.underlying36 ⟨_, Tryz.underlying36⟩ ok63 inf63 rfl rfl (Nat.lt_of_lt_of_le Nat.zero_lt_one (Nat.le_of_ble_eq_true rfl)) rfl rfl h ?_)
        intro r37 w36 h
        refine rv 8 rfl rfl rfl (q_assign (v := tSlc.enc (r37)) rfl rfl) ?_
        refine ro_nil ?_
        exact ⟨(r37), _, arr (upd_step rfl rfl), h⟩
      · refine wp_skip ?_
        exact ⟨((⟨some a21, 1, 1⟩ : Slc)), _, arr (upd_step rfl rfl), h⟩
def F32 (v_1 : (Option Addr)) (h_2 : S54) (w : World) (R : Unit → World → Prop) : Prop :=
  nw 55 T54 h_2 w fun a3 w4 =>
  dr w4 fun w5 =>
  ex (NC v_1) fun a6 =>
  ex (RdAt tMap (a6.add 3) w5) fun x7 =>
  ex (RdAt (tInt .i64) ((a3.add 0).add 0) w5) fun x8 =>
  mdel T54 .i64 x7 x8 w5 fun w9 =>
  dr w9 fun w10 =>
  ex (RdAt tMap (a6.add 4) w10) fun x11 =>
  ex (RdAt (tInt .i64) ((a3.add 0).add 1) w10) fun x12 =>
  mdel (tInt .i64) .i64 x11 x12 w10 fun w13 =>
  R () w13
theorem F32_ok {v_1 : (Option Addr)} {h_2 : S54} {w : World} {R : Unit → World → Prop} (h : F32 v_1 h_2 w R) : cl Tryz.prog 32 [.pointer (v_1), T54.enc (h_2)] tUnit w R := by
  unfold F32 at h
  refine calls_start 18 Tryz.func32 rfl rfl (Nat.le_of_ble_eq_true rfl) ?_
  refine wp_seq ?_
  refine wp_text [0] rfl ?_
  obtain ⟨a3, w4, ha3, hw4, h⟩ := nw_open h
  refine rv 3 rfl rfl rfl (q_box (u := h_2) rfl ok55 rfl ha3 hw4) ?_
  refine ro_nil ?_
  refine wp_seq ?_
  obtain ⟨w5, hw5, h⟩ := dr_open h
  refine wp_drawn 8 mixed rfl (by kernel_rfl) (by intro c a d v w h; cases d <;> exact h) hw5 (fun hD => ?_)
  refine rp 0 4 hD rfl rfl rfl (fun _ => q_move (v := .pointer (v_1)) rfl rfl) ?_
  obtain ⟨a6, ha6, h⟩ := h
  refine rp 1 5 hD rfl rfl rfl (fun _ => q_nilCheck (a := a6) rfl (congrArg Value.pointer ha6)) ?_
  refine rp 2 6 hD rfl rfl rfl (fun _ => q_fieldAddr (a := a6) (off := 3) rfl Tryz.underlying35 rfl rfl ok31 (by decide) rfl) ?_
  refine rp 4 8 hD rfl rfl rfl (fun _ => q_fieldAddr (a := a3) (off := 0) rfl Tryz.underlying55 rfl rfl ok53 (by decide) rfl) ?_
  refine rp 5 9 hD rfl rfl rfl (fun _ => q_fieldAddr (a := (a3.add 0)) (off := 0) rfl Tryz.underlying53 rfl rfl ok3 (by decide) rfl) ?_
  obtain ⟨x7, hx7, h⟩ := h
  refine rd_read (i := 3) (d := (some 7)) (fun W => (RdAt tMap (a6.add 3) W) x7) hD (by kernel_rfl) (by kernel_rfl) rfl (.free rfl) rfl (fun W hr => q_load (T := tMap) (u := x7) (a := (a6.add 3)) rfl ok31 rfl hr) hx7 ?_
  obtain ⟨x8, hx8, h⟩ := h
  refine rd_read (i := 6) (d := (some 10)) (fun W => (RdAt (tInt .i64) ((a3.add 0).add 0) W) x8) hD (by kernel_rfl) (by kernel_rfl) rfl (.free rfl) rfl (fun W hr => q_load (T := (tInt .i64)) (u := x8) (a := ((a3.add 0).add 0)) rfl ok3 rfl hr) hx8 ?_
  refine rd_one (i := 7) (by kernel_rfl) ?_
  refine po_wp rfl (.free rfl) (wp_mdel (T := T54) (r := x7) (key := x8) (d := none) rfl rfl Tryz.underlying31 Tryz.underlying3 rfl rfl h ?_)
  intro w9 h
  refine ⟨(hk_wait (by kernel_rfl) (hk_wait (by kernel_rfl) hk_nil)), ?_⟩
  refine rd_nil (by kernel_rfl) ?_
  obtain ⟨w10, hw10, h⟩ := dr_open h
  refine wp_drawn 8 mixed rfl (by kernel_rfl) (by intro c a d v w h; cases d <;> exact h) hw10 (fun hD => ?_)
  refine rp 0 11 hD rfl rfl rfl (fun _ => q_move (v := .pointer (v_1)) rfl rfl) ?_
  refine rp 1 12 hD rfl rfl rfl (fun _ => q_nilCheck (a := a6) rfl (congrArg Value.pointer ha6)) ?_
  refine rp 2 13 hD rfl rfl rfl (fun _ => q_fieldAddr (a := a6) (off := 4) rfl Tryz.underlying35 rfl rfl ok32 (by decide) rfl) ?_
  refine rp 4 15 hD rfl rfl rfl (fun _ => q_fieldAddr (a := a3) (off := 0) rfl Tryz.underlying55 rfl rfl ok53 (by decide) rfl) ?_
  refine rp 5 16 hD rfl rfl rfl (fun _ => q_fieldAddr (a := (a3.add 0)) (off := 1) rfl Tryz.underlying53 rfl rfl ok3 (by decide) rfl) ?_
  obtain ⟨x11, hx11, h⟩ := h
  refine rd_read (i := 3) (d := (some 14)) (fun W => (RdAt tMap (a6.add 4) W) x11) hD (by kernel_rfl) (by kernel_rfl) rfl (.free rfl) rfl (fun W hr => q_load (T := tMap) (u := x11) (a := (a6.add 4)) rfl ok32 rfl hr) hx11 ?_
  obtain ⟨x12, hx12, h⟩ := h
  refine rd_read (i := 6) (d := (some 17)) (fun W => (RdAt (tInt .i64) ((a3.add 0).add 1) W) x12) hD (by kernel_rfl) (by kernel_rfl) rfl (.free rfl) rfl (fun W hr => q_load (T := (tInt .i64)) (u := x12) (a := ((a3.add 0).add 1)) rfl ok3 rfl hr) hx12 ?_
  refine rd_one (i := 7) (by kernel_rfl) ?_
  refine po_wp rfl (.free rfl) (wp_mdel (T := (tInt .i64)) (r := x11) (key := x12) (d := none) rfl rfl Tryz.underlying32 Tryz.underlying3 rfl rfl h ?_)
  intro w13 h
  refine ⟨(hk_wait (by kernel_rfl) (hk_wait (by kernel_rfl) hk_nil)), ?_⟩
  refine rd_nil (by kernel_rfl) ?_
  exact end_ok rfl .nil ⟨(), rfl, h⟩
def F33 (v_1 : (Option Addr)) (t_2 : Int) (w : World) (R : Unit → World → Prop) : Prop :=
  ex (NC v_1) fun a3 =>
  ex (RdAt (tInt .i64) (a3.add 2) w) fun x4 =>
  st (tInt .i64) (a3.add 2) (max x4 t_2) w fun w5 =>
  R () w5
theorem F33_ok {v_1 : (Option Addr)} {t_2 : Int} {w : World} {R : Unit → World → Prop} (h : F33 v_1 t_2 w R) : cl Tryz.prog 33 [.pointer (v_1), .int .i64 (t_2)] tUnit w R := by
  unfold F33 at h
  refine calls_start 13 Tryz.func33 rfl rfl (Nat.le_of_ble_eq_true rfl) ?_
  refine wp_text [0, 1, 2, 3, 4, 5, 6, 7, 8, 9] rfl ?_
  refine rv 4 rfl rfl rfl (q_move (v := .pointer (v_1)) rfl rfl) ?_
  refine rv 5 rfl rfl rfl (q_move (v := .pointer (v_1)) rfl rfl) ?_
  obtain ⟨a3, ha3, h⟩ := h
  refine rv 6 rfl rfl rfl (q_nilCheck (a := a3) rfl (congrArg Value.pointer ha3)) ?_
  refine rv 7 rfl rfl rfl (q_fieldAddr (a := a3) (off := 2) rfl Tryz.underlying35 rfl rfl ok2 (by decide) rfl) ?_
  obtain ⟨x4, hx4, h⟩ := h
  refine rv 8 rfl rfl rfl (q_load (T := (tInt .i64)) (u := x4) (a := (a3.add 2)) rfl ok2 rfl hx4) ?_
  refine rv 9 rfl rfl rfl (q_move (v := .int .i64 (t_2)) rfl rfl) ?_
  refine rv 10 rfl rfl rfl (q_max (a := x4) (b := t_2) rfl rfl rfl) ?_
  refine rv 11 rfl rfl rfl (q_nilCheck (a := a3) rfl (congrArg Value.pointer ha3)) ?_
  refine rv 12 rfl rfl rfl (q_fieldAddr (a := a3) (off := 2) rfl Tryz.underlying35 rfl rfl ok2 (by decide) rfl) ?_
  obtain ⟨w5, hw5, hrw5, h⟩ := st_open h
  refine ro_skip (d := none) rfl (.free rfl) rfl (q_store (T := (tInt .i64)) (u := (max x4 t_2)) (a := (a3.add 2)) rfl ok2 rfl rfl hrw5 hw5) ?_
  refine ro_nil ?_
  exact end_ok rfl .nil ⟨(), rfl, h⟩
def F35 (m_1 : (Option Nat)) (w : World) (R : Fv → World → Prop) : Prop :=
  nw 31 tMap m_1 w fun a2 w3 =>
  R (Fv.mk (.func 55) (List.toArray []) (List.toArray [.pointer (some a2)])) w3
theorem F35_ok {m_1 : (Option Nat)} {w : World} {R : Fv → World → Prop} (h : F35 m_1 w R) : cl Tryz.prog 35 [.map (m_1)] tFun w R := by
  unfold F35 at h
  refine calls_start 4 Tryz.func35 rfl rfl (Nat.le_of_ble_eq_true rfl) ?_
  refine wp_seq ?_
  refine wp_text [0, 1] rfl ?_
  obtain ⟨a2, w3, ha2, hw3, h⟩ := nw_open h
  refine rv 1 rfl rfl rfl (q_box (u := m_1) rfl ok31 rfl ha2 hw3) ?_
  refine rv 2 rfl rfl rfl (q_assign (v := (Fv.nil).enc) rfl rfl) ?_
  refine ro_nil ?_
  refine wp_seq ?_
  refine wp_text [0, 1] rfl ?_
  refine rv 3 rfl rfl rfl (q_makeFunc (fn := .func 55) (va := []) (vc := [.pointer (some a2)]) rfl rfl rfl) ?_
  refine rv 2 rfl rfl rfl (q_assign (v := ((Fv.mk (.func 55) (List.toArray []) (List.toArray [.pointer (some a2)]))).enc) rfl rfl) ?_
  refine ro_nil ?_
  refine wp_ret ?_
  exact ret_ok rfl (.cons (.tmp (v := ((Fv.mk (.func 55) (List.toArray []) (List.toArray [.pointer (some a2)]))).enc) rfl) .nil) ⟨(Fv.mk (.func 55) (List.toArray []) (List.toArray [.pointer (some a2)])), rfl, h⟩
def F36 (t_1 : Int) (w : World) (R : Bool → World → Prop) : Prop :=
  R ((decide (t_1 ≥ (0 : Int))) && (decide (t_1 ≤ (1125899906842624 : Int)))) w
theorem F36_ok {t_1 : Int} {w : World} {R : Bool → World → Prop} (h : F36 t_1 w R) : cl Tryz.prog 36 [.int .i64 (t_1)] tBool w R := by
  unfold F36 at h
  refine calls_start 9 Tryz.func36 rfl rfl (Nat.le_of_ble_eq_true rfl) ?_
  refine wp_seq ?_
  refine wp_text [0] rfl ?_
  refine rv 2 rfl rfl rfl (q_assign (v := .bool (false)) rfl rfl) ?_
  refine ro_nil ?_
  refine wp_seq ?_
  refine wp_text [0, 1, 2, 3, 4, 5, 6] rfl ?_
  refine rv 3 rfl rfl rfl (q_move (v := .int .i64 (t_1)) rfl rfl) ?_
  refine rv 4 rfl rfl rfl (q_geq (a := t_1) (b := (0 : Int)) rfl rfl rfl) ?_
  refine rv 5 rfl rfl rfl (q_move (v := .bool ((decide (t_1 ≥ (0 : Int))))) rfl rfl) ?_
  refine ro_gval (g := (decide (t_1 ≥ (0 : Int)))) (d := (some 6)) rfl (.yes 2 5 true (decide (t_1 ≥ (0 : Int))) rfl rfl rfl rfl) rfl (fun hg => q_move (v := .int .i64 (t_1)) rfl rfl) ?_
  refine ro_gval (g := (decide (t_1 ≥ (0 : Int)))) (d := (some 7)) rfl (.yes 2 5 true (decide (t_1 ≥ (0 : Int))) rfl rfl rfl rfl) rfl (fun hg => q_leq (k := .i64) (a := t_1) (b := (1125899906842624 : Int)) rfl (gvb_yes hg) rfl) ?_
  refine rv 8 rfl rfl rfl (q_pickGT (a := (decide (t_1 ≥ (0 : Int)))) (b := (decide (t_1 ≤ (1125899906842624 : Int)))) rfl rfl rfl rfl) ?_
  refine rv 2 rfl rfl rfl (q_assign (v := .bool (((decide (t_1 ≥ (0 : Int))) && (decide (t_1 ≤ (1125899906842624 : Int)))))) rfl rfl) ?_
  refine ro_nil ?_
  refine wp_ret ?_
  exact ret_ok rfl (.cons (.tmp (v := .bool (((decide (t_1 ≥ (0 : Int))) && (decide (t_1 ≤ (1125899906842624 : Int)))))) rfl) .nil) ⟨((decide (t_1 ≥ (0 : Int))) && (decide (t_1 ≤ (1125899906842624 : Int)))), rfl, h⟩
def F37 (s_1 : (Option Addr)) (t_2 : Int) (w : World) (R : Int → World → Prop) : Prop :=
  cl Tryz.prog 56 [.int .i64 (t_2)] tBool w fun r4 w3 =>
  if (!r4) = true then (
    R (120 : Int) w3
  ) else (
    ex (NC s_1) fun a5 =>
    ex (RdAt (tInt .i64) (a5.add 1) w3) fun x6 =>
    st (tInt .i64) (a5.add 1) (max x6 t_2) w3 fun w7 =>
    R (0 : Int) w7
  )
theorem F37_ok {s_1 : (Option Addr)} {t_2 : Int} {w : World} {R : Int → World → Prop} (h : F37 s_1 t_2 w R) : cl Tryz.prog 37 [.pointer (s_1), .int .i64 (t_2)] (tInt .i64) w R := by
  unfold F37 at h
  refine calls_start 17 Tryz.func37 rfl rfl (Nat.le_of_ble_eq_true rfl) ?_
  refine wp_seq ?_
  refine wp_text [0] rfl ?_
  refine rv 4 rfl rfl rfl (q_assign (v := .int .i64 ((0 : Int))) rfl rfl) ?_
  refine ro_nil ?_
  refine wp_seq ?_
  refine wp_seq ?_
  refine wp_text [0, 1, 2] rfl ?_
  refine rv 5 rfl rfl rfl (q_move (v := .int .i64 (t_2)) rfl rfl) ?_
  refine ro_wp rfl (.free rfl) (wp_cl (d := (some 6)) rfl (q_call (k := 56) (l := [.int .i64 (t_2)]) rfl ent56 rfl) h ?_)
  intro r4 w3 h
  refine rv 7 rfl rfl rfl (q_not (b := r4) rfl rfl) ?_
  refine ro_nil ?_
  refine wp_if (b := (!r4)) rfl h (fun hb8 h => ?_) (fun hb8 h => ?_)
  · refine wp_seq ?_
    refine wp_text [0] rfl ?_
    refine rv 4 rfl rfl rfl (q_assign (v := .int .i64 ((120 : Int))) rfl rfl) ?_
    refine ro_nil ?_
    refine wp_ret ?_
    exact ret_ok rfl (.cons (.tmp (v := .int .i64 ((120 : Int))) rfl) .nil) ⟨(120 : Int), rfl, h⟩
  · refine wp_skip ?_
    refine wp_seq ?_
    refine wp_text [0, 1, 2, 3, 4, 5, 6, 7, 8, 9] rfl ?_
    refine rv 8 rfl rfl rfl (q_move (v := .pointer (s_1)) rfl rfl) ?_
    refine rv 9 rfl rfl rfl (q_move (v := .pointer (s_1)) rfl rfl) ?_
    obtain ⟨a5, ha5, h⟩ := h
    refine rv 10 rfl rfl rfl (q_nilCheck (a := a5) rfl (congrArg Value.pointer ha5)) ?_
    refine rv 11 rfl rfl rfl (q_fieldAddr (a := a5) (off := 1) rfl Tryz.underlying95 rfl rfl ok2 (by decide) rfl) ?_
    obtain ⟨x6, hx6, h⟩ := h
    refine rv 12 rfl rfl rfl (q_load (T := (tInt .i64)) (u := x6) (a := (a5.add 1)) rfl ok2 rfl hx6) ?_
    refine rv 13 rfl rfl rfl (q_move (v := .int .i64 (t_2)) rfl rfl) ?_
    refine rv 14 rfl rfl rfl (q_max (a := x6) (b := t_2) rfl rfl rfl) ?_
    refine rv 15 rfl rfl rfl (q_nilCheck (a := a5) rfl (congrArg Value.pointer ha5)) ?_
    refine rv 16 rfl rfl rfl (q_fieldAddr (a := a5) (off := 1) rfl Tryz.underlying95 rfl rfl ok2 (by decide) rfl) ?_
    obtain ⟨w7, hw7, hrw7, h⟩ := st_open h
    refine ro_skip (d := none) rfl (.free rfl) rfl (q_store (T := (tInt .i64)) (u := (max x6 t_2)) (a := (a5.add 1)) rfl ok2 rfl rfl hrw7 hw7) ?_
    refine ro_nil ?_
    refine wp_seq ?_
    refine wp_text [0] rfl ?_
    refine rv 4 rfl rfl rfl (q_assign (v := .int .i64 ((0 : Int))) rfl rfl) ?_
    refine ro_nil ?_
    refine wp_ret ?_
    exact ret_ok rfl (.cons (.tmp (v := .int .i64 ((0 : Int))) rfl) .nil) ⟨(0 : Int), rfl, h⟩
def F38 (v_1 : (Option Addr)) (t_2 : Int) (w : World) (R : Int → World → Prop) : Prop :=
  if ((decide (t_2 < (1 : Int))) || (decide (t_2 > (1125899906842624 : Int)))) = true then (
    R (151 : Int) w
  ) else (
    ex (NC v_1) fun a3 =>
    ex (RdAt (tInt .i64) (a3.add 2) w) fun x4 =>
    if (decide (t_2 ≤ x4)) = true then (
      R (152 : Int) w
    ) else (
      R (0 : Int) w
    )
  )
theorem F38_ok {v_1 : (Option Addr)} {t_2 : Int} {w : World} {R : Int → World → Prop} (h : F38 v_1 t_2 w R) : cl Tryz.prog 38 [.pointer (v_1), .int .i64 (t_2)] (tInt .i64) w R := by
  unfold F38 at h
  refine calls_start 19 Tryz.func38 rfl rfl (Nat.le_of_ble_eq_true rfl) ?_
  refine wp_seq ?_
  refine wp_text [0] rfl ?_
  refine rv 4 rfl rfl rfl (q_assign (v := .int .i64 ((0 : Int))) rfl rfl) ?_
  refine ro_nil ?_
  refine wp_seq ?_
  refine wp_block ?_
  refine wp_seq ?_
  refine wp_text [0, 1, 2, 3, 4, 5, 6] rfl ?_
  refine rv 6 rfl rfl rfl (q_move (v := .int .i64 (t_2)) rfl rfl) ?_
  refine rv 7 rfl rfl rfl (q_lss (a := t_2) (b := (1 : Int)) rfl rfl rfl) ?_
  refine rv 8 rfl rfl rfl (q_move (v := .bool ((decide (t_2 < (1 : Int))))) rfl rfl) ?_
  refine ro_gval (g := (!(decide (t_2 < (1 : Int))))) (d := (some 9)) rfl (.no 2 8 true (decide (t_2 < (1 : Int))) rfl rfl rfl rfl) rfl (fun hg => q_move (v := .int .i64 (t_2)) rfl rfl) ?_
  refine ro_gval (g := (!(decide (t_2 < (1 : Int))))) (d := (some 10)) rfl (.no 2 8 true (decide (t_2 < (1 : Int))) rfl rfl rfl rfl) rfl (fun hg => q_gtr (k := .i64) (a := t_2) (b := (1125899906842624 : Int)) rfl (gvb_yes hg) rfl) ?_
  refine rv 11 rfl rfl rfl (q_pickGF (a := (decide (t_2 < (1 : Int)))) (c := (decide (t_2 > (1125899906842624 : Int)))) rfl rfl rfl rfl) ?_
  refine rv 5 rfl rfl rfl (q_assign (v := .bool (((decide (t_2 < (1 : Int))) || (decide (t_2 > (1125899906842624 : Int)))))) rfl rfl) ?_
  refine ro_nil ?_
  refine wp_if (b := ((decide (t_2 < (1 : Int))) || (decide (t_2 > (1125899906842624 : Int))))) rfl h (fun hb6 h => ?_) (fun hb6 h => ?_)
  · refine wp_seq ?_
    refine wp_text [0] rfl ?_
    refine rv 4 rfl rfl rfl (q_assign (v := .int .i64 ((151 : Int))) rfl rfl) ?_
    refine ro_nil ?_
    refine wp_ret ?_
    exact ret_ok rfl (.cons (.tmp (v := .int .i64 ((151 : Int))) rfl) .nil) ⟨(151 : Int), rfl, h⟩
  · refine wp_seq ?_
    refine wp_text [0, 1, 2, 3, 4, 5, 6] rfl ?_
    refine rv 13 rfl rfl rfl (q_move (v := .int .i64 (t_2)) rfl rfl) ?_
    refine rv 14 rfl rfl rfl (q_move (v := .pointer (v_1)) rfl rfl) ?_
    obtain ⟨a3, ha3, h⟩ := h
    refine rv 15 rfl rfl rfl (q_nilCheck (a := a3) rfl (congrArg Value.pointer ha3)) ?_
    refine rv 16 rfl rfl rfl (q_fieldAddr (a := a3) (off := 2) rfl Tryz.underlying35 rfl rfl ok2 (by decide) rfl) ?_
    obtain ⟨x4, hx4, h⟩ := h
    refine rv 17 rfl rfl rfl (q_load (T := (tInt .i64)) (u := x4) (a := (a3.add 2)) rfl ok2 rfl hx4) ?_
    refine rv 18 rfl rfl rfl (q_leq (a := t_2) (b := x4) rfl rfl rfl) ?_
    refine rv 12 rfl rfl rfl (q_assign (v := .bool ((decide (t_2 ≤ x4)))) rfl rfl) ?_
    refine ro_nil ?_
    refine wp_if (b := (decide (t_2 ≤ x4))) rfl h (fun hb5 h => ?_) (fun hb5 h => ?_)
    · refine wp_seq ?_
      refine wp_text [0] rfl ?_
      refine rv 4 rfl rfl rfl (q_assign (v := .int .i64 ((152 : Int))) rfl rfl) ?_
      refine ro_nil ?_
      refine wp_ret ?_
      exact ret_ok rfl (.cons (.tmp (v := .int .i64 ((152 : Int))) rfl) .nil) ⟨(152 : Int), rfl, h⟩
    · refine wp_skip ?_
      refine wp_seq ?_
      refine wp_text [0] rfl ?_
      refine rv 4 rfl rfl rfl (q_assign (v := .int .i64 ((0 : Int))) rfl rfl) ?_
      refine ro_nil ?_
      refine wp_ret ?_
      exact ret_ok rfl (.cons (.tmp (v := .int .i64 ((0 : Int))) rfl) .nil) ⟨(0 : Int), rfl, h⟩
end Go.Proofs.YtpdaapffkdejoaaGreat.Cf
