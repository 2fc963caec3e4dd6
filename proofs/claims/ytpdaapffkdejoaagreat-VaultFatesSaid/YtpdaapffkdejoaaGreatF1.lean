/- Characteristic formulae of Go functions, and that they are. Printed by gen.py (own tool). -/
import Derived.Test.YtpdaapffkdejoaaGreatTy
namespace Go.Proofs.YtpdaapffkdejoaaGreat.Cf
open Go
set_option maxRecDepth 100000
set_option maxHeartbeats 1000000
set_option linter.unusedVariables false
set_option linter.unusedSimpArgs false

-- moiety/moietylaw15.awake
def F8_j3 (t_41 : Bool) (w42 : World) (R : Bool → World → Prop) : Prop :=
  R t_41 w42
def F8_j2 (r2 : ((Option Addr) × Int)) (t_39 : Bool) (w40 : World) (R : Bool → World → Prop) : Prop :=
  if t_39 = true then (
    ex (NC r2.1) fun a44 =>
    ex (RdAt T29 (a44.add 0) w40) fun x45 =>
    cl Tryz.prog 13 [T29.enc (x45)] (tInt .i64) w40 fun r47 w46 =>
    F8_j3 (r47 == (9 : Int)) w46 R
  ) else (
    F8_j3 false w40 R
  )
def F8_j1 (r2 : ((Option Addr) × Int)) (t_37 : Bool) (w38 : World) (R : Bool → World → Prop) : Prop :=
  if t_37 = true then (
    ex (NC r2.1) fun a49 =>
    ex (RdAt T29 (a49.add 0) w38) fun x50 =>
    cl Tryz.prog 9 [T29.enc (x50)] (tInt .i64) w38 fun r52 w51 =>
    F8_j2 r2 (r52 == (9 : Int)) w51 R
  ) else (
    F8_j2 r2 false w38 R
  )
def F8 (w : World) (R : Bool → World → Prop) : Prop :=
  cl Tryz.prog 22 [.float .f64 ((4576918229304087675 : Nat))] (tTup2 tPtr (tInt .i64)) w fun r2 w1 =>
  if ((r2.2 != (0 : Int)) || r2.1.isNone) = true then (
    R false w1
  ) else (
    cl Tryz.prog 23 [.pointer (r2.1), .int .i64 ((1 : Int)), .int .i64 ((7 : Int)), .int .i64 ((1000 : Int))] (tInt .i64) w1 fun r4 w3 =>
    cl Tryz.prog 21 [.pointer (r2.1), .int .i64 ((5 : Int)), T52.enc ((⟨(1 : Int), (7 : Int), (200 : Int), true⟩ : S52))] (tInt .i64) w3 fun r6 w5 =>
    cl Tryz.prog 21 [.pointer (r2.1), .int .i64 ((6 : Int)), T52.enc ((⟨(2 : Int), (7 : Int), (1 : Int), false⟩ : S52))] (tInt .i64) w5 fun r8 w7 =>
    cl Tryz.prog 19 [.pointer (r2.1), .int .i64 ((5 : Int))] (tInt .i64) w7 fun r10 w9 =>
    cl Tryz.prog 19 [.pointer (r2.1), .int .i64 ((4 : Int))] (tInt .i64) w9 fun r12 w11 =>
    cl Tryz.prog 17 [.pointer (r2.1)] tSlc w11 fun r14 w13 =>
    cl Tryz.prog 15 [.pointer (r2.1), .int .i64 ((9 : Int)), .int .i64 ((1 : Int))] (tInt .i64) w13 fun r16 w15 =>
    cl Tryz.prog 19 [.pointer (r2.1), .int .i64 ((9 : Int))] (tInt .i64) w15 fun r18 w17 =>
    cl Tryz.prog 24 [.pointer (r2.1), .int .i64 ((7 : Int)), .int .i64 ((8 : Int))] (tTup2 (tInt .i64) (tInt .i64)) w17 fun r20 w19 =>
    cl Tryz.prog 10 [.pointer (r2.1), .int .i64 ((9 : Int))] (tTup2 tSlc (tInt .i64)) w19 fun r22 w21 =>
    cl Tryz.prog 16 [.pointer (r2.1), .int .i64 ((1 : Int))] (tInt .i64) w21 fun r24 w23 =>
    cl Tryz.prog 16 [.pointer (r2.1), .int .i64 ((3 : Int))] (tInt .i64) w23 fun r26 w25 =>
    cl Tryz.prog 14 [.pointer (r2.1), .int .i64 ((1 : Int))] (tTup2 (tInt .i64) (tInt .i64)) w25 fun r28 w27 =>
    cl Tryz.prog 25 [.pointer (r2.1), .int .i64 ((9 : Int))] (tInt .i64) w27 fun r30 w29 =>
    ex (fun x => ((((((r4 == (0 : Int)) && (r6 == (0 : Int))) && (r8 == (160 : Int))) && (r10 == (160 : Int))) && (r12 == (0 : Int))) && ((r14.len : Int) == (1 : Int))) = true → (IxA r14 6 (0 : Int)) x) fun a31 =>
    ex (fun x => ((((((r4 == (0 : Int)) && (r6 == (0 : Int))) && (r8 == (160 : Int))) && (r10 == (160 : Int))) && (r12 == (0 : Int))) && ((r14.len : Int) == (1 : Int))) = true → (RdAt (tInt .i64) (a31.add 5) w29) x) fun x32 =>
    ex (fun x => (((((((((((((r4 == (0 : Int)) && (r6 == (0 : Int))) && (r8 == (160 : Int))) && (r10 == (160 : Int))) && (r12 == (0 : Int))) && ((r14.len : Int) == (1 : Int))) && (x32 == (2 : Int))) && (r16 == (0 : Int))) && (r18 == (0 : Int))) && (r20.1 == (1000 : Int))) && (r20.2 == (0 : Int))) && (r22.2 == (0 : Int))) && ((r22.1.len : Int) == (2 : Int))) = true → (IxA r22.1 2 (0 : Int)) x) fun a33 =>
    ex (fun x => (((((((((((((r4 == (0 : Int)) && (r6 == (0 : Int))) && (r8 == (160 : Int))) && (r10 == (160 : Int))) && (r12 == (0 : Int))) && ((r14.len : Int) == (1 : Int))) && (x32 == (2 : Int))) && (r16 == (0 : Int))) && (r18 == (0 : Int))) && (r20.1 == (1000 : Int))) && (r20.2 == (0 : Int))) && (r22.2 == (0 : Int))) && ((r22.1.len : Int) == (2 : Int))) = true → (RdAt (tInt .i64) (a33.add 1) w29) x) fun x34 =>
    ex (fun x => ((((((((((((((r4 == (0 : Int)) && (r6 == (0 : Int))) && (r8 == (160 : Int))) && (r10 == (160 : Int))) && (r12 == (0 : Int))) && ((r14.len : Int) == (1 : Int))) && (x32 == (2 : Int))) && (r16 == (0 : Int))) && (r18 == (0 : Int))) && (r20.1 == (1000 : Int))) && (r20.2 == (0 : Int))) && (r22.2 == (0 : Int))) && ((r22.1.len : Int) == (2 : Int))) && (x34 == (798 : Int))) = true → (IxA r22.1 2 (1 : Int)) x) fun a35 =>
    ex (fun x => ((((((((((((((r4 == (0 : Int)) && (r6 == (0 : Int))) && (r8 == (160 : Int))) && (r10 == (160 : Int))) && (r12 == (0 : Int))) && ((r14.len : Int) == (1 : Int))) && (x32 == (2 : Int))) && (r16 == (0 : Int))) && (r18 == (0 : Int))) && (r20.1 == (1000 : Int))) && (r20.2 == (0 : Int))) && (r22.2 == (0 : Int))) && ((r22.1.len : Int) == (2 : Int))) && (x34 == (798 : Int))) = true → (RdAt (tInt .i64) (a35.add 0) w29) x) fun x36 =>
    if ((((((((((((((((((((r4 == (0 : Int)) && (r6 == (0 : Int))) && (r8 == (160 : Int))) && (r10 == (160 : Int))) && (r12 == (0 : Int))) && ((r14.len : Int) == (1 : Int))) && (x32 == (2 : Int))) && (r16 == (0 : Int))) && (r18 == (0 : Int))) && (r20.1 == (1000 : Int))) && (r20.2 == (0 : Int))) && (r22.2 == (0 : Int))) && ((r22.1.len : Int) == (2 : Int))) && (x34 == (798 : Int))) && (x36 == (4103 : Int))) && (r24 == (157 : Int))) && (r26 == (0 : Int))) && (r28.1 == (2 : Int))) && (r28.2 == (9 : Int))) && (r30 == (0 : Int))) = true then (
      cl Tryz.prog 18 [.pointer (r2.1)] (tInt .i64) w29 fun r55 w54 =>
      F8_j1 r2 (r55 == (9 : Int)) w54 R
    ) else (
      F8_j1 r2 false w29 R
    )
  )
theorem F8_ok {w : World} {R : Bool → World → Prop} (h : F8 w R) : cl Tryz.prog 8 [] tBool w R := by
  unfold F8 at h
  refine calls_start 179 Tryz.func8 rfl rfl (Nat.le_of_ble_eq_true rfl) ?_
  refine wp_seq ?_
  refine wp_text [0] rfl ?_
  refine rv 0 rfl rfl rfl (q_assign (v := .bool (false)) rfl rfl) ?_
  refine ro_nil ?_
  refine wp_seq ?_
  refine wp_text [0, 1, 2, 3, 4, 5] rfl ?_
  refine ro_wp rfl (.free rfl) (wp_cl (d := (some 21)) rfl (q_call (k := 22) (l := [.float .f64 ((4576918229304087675 : Nat))]) rfl ent22 rfl) h ?_)
  intro r2 w1 h
  refine rv 20 rfl rfl rfl (q_move (v := (tTup2 tPtr (tInt .i64)).enc (r2)) rfl rfl) ?_
  refine rv 22 rfl rfl rfl (q_extract (vs := #[.pointer (r2.1), .int .i64 (r2.2)]) (v := .pointer (r2.1)) rfl rfl rfl) ?_
  refine rv 23 rfl rfl rfl (q_extract (vs := #[.pointer (r2.1), .int .i64 (r2.2)]) (v := .int .i64 (r2.2)) rfl rfl rfl) ?_
  refine rv 1 rfl rfl rfl (q_assign (v := .pointer (r2.1)) rfl rfl) ?_
  refine rv 2 rfl rfl rfl (q_assign (v := .int .i64 (r2.2)) rfl rfl) ?_
  refine ro_nil ?_
  refine wp_seq ?_
  refine wp_seq ?_
  refine wp_text [0, 1, 2, 3, 4, 5] rfl ?_
  refine rv 24 rfl rfl rfl (q_move (v := .int .i64 (r2.2)) rfl rfl) ?_
  refine rv 25 rfl rfl rfl (q_neq (a := r2.2) (b := (0 : Int)) rfl rfl rfl) ?_
  refine rv 26 rfl rfl rfl (q_move (v := .bool ((r2.2 != (0 : Int)))) rfl rfl) ?_
  refine ro_gval (g := (!(r2.2 != (0 : Int)))) (d := (some 27)) rfl (.no 2 26 true (r2.2 != (0 : Int)) rfl rfl rfl rfl) rfl (fun hg => q_move (v := .pointer (r2.1)) rfl rfl) ?_
  refine ro_gval (g := (!(r2.2 != (0 : Int)))) (d := (some 28)) rfl (.no 2 26 true (r2.2 != (0 : Int)) rfl rfl rfl rfl) rfl (fun hg => q_eqP0 (a := r2.1) rfl Tryz.underlying24 (gvb_yes hg) rfl) ?_
  refine rv 29 rfl rfl rfl (q_pickGF (a := (r2.2 != (0 : Int))) (c := r2.1.isNone) rfl rfl rfl rfl) ?_
  refine ro_nil ?_
  refine wp_if (b := ((r2.2 != (0 : Int)) || r2.1.isNone)) rfl h (fun hb56 h => ?_) (fun hb56 h => ?_)
  · refine wp_seq ?_
    refine wp_text [0] rfl ?_
    refine rv 0 rfl rfl rfl (q_assign (v := .bool (false)) rfl rfl) ?_
    refine ro_nil ?_
    refine wp_ret ?_
    exact ret_ok rfl (.cons (.tmp (v := .bool (false)) rfl) .nil) ⟨false, rfl, h⟩
  · refine wp_skip ?_
    refine wp_seq ?_
    refine wp_text [0, 1, 2] rfl ?_
    refine rv 30 rfl rfl rfl (q_move (v := .pointer (r2.1)) rfl rfl) ?_
    refine ro_wp rfl (.free rfl) (wp_cl (d := (some 31)) rfl (q_call (k := 23) (l := [.pointer (r2.1), .int .i64 ((1 : Int)), .int .i64 ((7 : Int)), .int .i64 ((1000 : Int))]) rfl ent23 rfl) h ?_)
    intro r4 w3 h
    refine rv 3 rfl rfl rfl (q_assign (v := .int .i64 (r4)) rfl rfl) ?_
    refine ro_nil ?_
    refine wp_seq ?_
    refine wp_text [0, 1, 2, 3] rfl ?_
    refine rv 32 rfl rfl rfl (q_move (v := .pointer (r2.1)) rfl rfl) ?_
    refine rv 33 rfl rfl rfl (q_build53_0_1_2_3 (v0 := (1 : Int)) (v1 := (7 : Int)) (v2 := (200 : Int)) (v3 := true) rfl rfl rfl rfl rfl) ?_
    refine ro_wp rfl (.free rfl) (wp_cl (d := (some 34)) rfl (q_call (k := 21) (l := [.pointer (r2.1), .int .i64 ((5 : Int)), T52.enc ((⟨(1 : Int), (7 : Int), (200 : Int), true⟩ : S52))]) rfl ent21 rfl) h ?_)
    intro r6 w5 h
    refine rv 4 rfl rfl rfl (q_assign (v := .int .i64 (r6)) rfl rfl) ?_
    refine ro_nil ?_
    refine wp_seq ?_
    refine wp_text [0, 1, 2, 3] rfl ?_
    refine rv 35 rfl rfl rfl (q_move (v := .pointer (r2.1)) rfl rfl) ?_
    refine rv 36 rfl rfl rfl (q_build53_0_1_2 (v0 := (2 : Int)) (v1 := (7 : Int)) (v2 := (1 : Int)) rfl rfl rfl rfl) ?_
    refine ro_wp rfl (.free rfl) (wp_cl (d := (some 37)) rfl (q_call (k := 21) (l := [.pointer (r2.1), .int .i64 ((6 : Int)), T52.enc ((⟨(2 : Int), (7 : Int), (1 : Int), false⟩ : S52))]) rfl ent21 rfl) h ?_)
    intro r8 w7 h
    refine rv 5 rfl rfl rfl (q_assign (v := .int .i64 (r8)) rfl rfl) ?_
    refine ro_nil ?_
    refine wp_seq ?_
    refine wp_text [0, 1, 2, 3, 4, 5] rfl ?_
    refine rv 38 rfl rfl rfl (q_move (v := .pointer (r2.1)) rfl rfl) ?_
    refine ro_wp rfl (.free rfl) (wp_cl (d := (some 39)) rfl (q_call (k := 19) (l := [.pointer (r2.1), .int .i64 ((5 : Int))]) rfl ent19 rfl) h ?_)
    intro r10 w9 h
    refine rv 40 rfl rfl rfl (q_move (v := .pointer (r2.1)) rfl rfl) ?_
    refine ro_wp rfl (.free rfl) (wp_cl (d := (some 41)) rfl (q_call (k := 19) (l := [.pointer (r2.1), .int .i64 ((4 : Int))]) rfl ent19 rfl) h ?_)
    intro r12 w11 h
    refine rv 6 rfl rfl rfl (q_assign (v := .int .i64 (r10)) rfl rfl) ?_
    refine rv 7 rfl rfl rfl (q_assign (v := .int .i64 (r12)) rfl rfl) ?_
    refine ro_nil ?_
    refine wp_seq ?_
    refine wp_text [0, 1, 2] rfl ?_
    refine rv 42 rfl rfl rfl (q_move (v := .pointer (r2.1)) rfl rfl) ?_
    refine ro_wp rfl (.free rfl) (wp_cl (d := (some 43)) rfl (q_call (k := 17) (l := [.pointer (r2.1)]) rfl ent17 rfl) h ?_)
    intro r14 w13 h
    refine rv 8 rfl rfl rfl (q_assign (v := tSlc.enc (r14)) rfl rfl) ?_
    refine ro_nil ?_
    refine wp_seq ?_
    refine wp_text [0, 1, 2, 3, 4, 5] rfl ?_
    refine rv 44 rfl rfl rfl (q_move (v := .pointer (r2.1)) rfl rfl) ?_
    refine ro_wp rfl (.free rfl) (wp_cl (d := (some 45)) rfl (q_call (k := 15) (l := [.pointer (r2.1), .int .i64 ((9 : Int)), .int .i64 ((1 : Int))]) rfl ent15 rfl) h ?_)
    intro r16 w15 h
    refine rv 46 rfl rfl rfl (q_move (v := .pointer (r2.1)) rfl rfl) ?_
    refine ro_wp rfl (.free rfl) (wp_cl (d := (some 47)) rfl (q_call (k := 19) (l := [.pointer (r2.1), .int .i64 ((9 : Int))]) rfl ent19 rfl) h ?_)
    intro r18 w17 h
    refine rv 9 rfl rfl rfl (q_assign (v := .int .i64 (r16)) rfl rfl) ?_
    refine rv 10 rfl rfl rfl (q_assign (v := .int .i64 (r18)) rfl rfl) ?_
    refine ro_nil ?_
    refine wp_seq ?_
    refine wp_text [0, 1, 2, 3, 4, 5, 6] rfl ?_
    refine rv 49 rfl rfl rfl (q_move (v := .pointer (r2.1)) rfl rfl) ?_
    refine ro_wp rfl (.free rfl) (wp_cl (d := (some 50)) rfl (q_call (k := 24) (l := [.pointer (r2.1), .int .i64 ((7 : Int)), .int .i64 ((8 : Int))]) rfl ent24 rfl) h ?_)
    intro r20 w19 h
    refine rv 48 rfl rfl rfl (q_move (v := (tTup2 (tInt .i64) (tInt .i64)).enc (r20)) rfl rfl) ?_
    refine rv 51 rfl rfl rfl (q_extract (vs := #[.int .i64 (r20.1), .int .i64 (r20.2)]) (v := .int .i64 (r20.1)) rfl rfl rfl) ?_
    refine rv 52 rfl rfl rfl (q_extract (vs := #[.int .i64 (r20.1), .int .i64 (r20.2)]) (v := .int .i64 (r20.2)) rfl rfl rfl) ?_
    refine rv 11 rfl rfl rfl (q_assign (v := .int .i64 (r20.1)) rfl rfl) ?_
    refine rv 12 rfl rfl rfl (q_assign (v := .int .i64 (r20.2)) rfl rfl) ?_
    refine ro_nil ?_
    refine wp_seq ?_
    refine wp_text [0, 1, 2, 3, 4, 5, 6] rfl ?_
    refine rv 54 rfl rfl rfl (q_move (v := .pointer (r2.1)) rfl rfl) ?_
    refine ro_wp rfl (.free rfl) (wp_cl (d := (some 55)) rfl (q_call (k := 10) (l := [.pointer (r2.1), .int .i64 ((9 : Int))]) rfl ent10 rfl) h ?_)
    intro r22 w21 h
    refine rv 53 rfl rfl rfl (q_move (v := (tTup2 tSlc (tInt .i64)).enc (r22)) rfl rfl) ?_
    refine rv 56 rfl rfl rfl (q_extract (vs := #[tSlc.enc (r22.1), .int .i64 (r22.2)]) (v := tSlc.enc (r22.1)) rfl rfl rfl) ?_
    refine rv 57 rfl rfl rfl (q_extract (vs := #[tSlc.enc (r22.1), .int .i64 (r22.2)]) (v := .int .i64 (r22.2)) rfl rfl rfl) ?_
    refine rv 13 rfl rfl rfl (q_assign (v := tSlc.enc (r22.1)) rfl rfl) ?_
    refine rv 14 rfl rfl rfl (q_assign (v := .int .i64 (r22.2)) rfl rfl) ?_
    refine ro_nil ?_
    refine wp_seq ?_
    refine wp_text [0, 1, 2] rfl ?_
    refine rv 58 rfl rfl rfl (q_move (v := .pointer (r2.1)) rfl rfl) ?_
    refine ro_wp rfl (.free rfl) (wp_cl (d := (some 59)) rfl (q_call (k := 16) (l := [.pointer (r2.1), .int .i64 ((1 : Int))]) rfl ent16 rfl) h ?_)
    intro r24 w23 h
    refine rv 15 rfl rfl rfl (q_assign (v := .int .i64 (r24)) rfl rfl) ?_
    refine ro_nil ?_
    refine wp_seq ?_
    refine wp_text [0, 1, 2] rfl ?_
    refine rv 60 rfl rfl rfl (q_move (v := .pointer (r2.1)) rfl rfl) ?_
    refine ro_wp rfl (.free rfl) (wp_cl (d := (some 61)) rfl (q_call (k := 16) (l := [.pointer (r2.1), .int .i64 ((3 : Int))]) rfl ent16 rfl) h ?_)
    intro r26 w25 h
    refine rv 16 rfl rfl rfl (q_assign (v := .int .i64 (r26)) rfl rfl) ?_
    refine ro_nil ?_
    refine wp_seq ?_
    refine wp_text [0, 1, 2, 3, 4, 5, 6] rfl ?_
    refine rv 63 rfl rfl rfl (q_move (v := .pointer (r2.1)) rfl rfl) ?_
    refine ro_wp rfl (.free rfl) (wp_cl (d := (some 64)) rfl (q_call (k := 14) (l := [.pointer (r2.1), .int .i64 ((1 : Int))]) rfl ent14 rfl) h ?_)
    intro r28 w27 h
    refine rv 62 rfl rfl rfl (q_move (v := (tTup2 (tInt .i64) (tInt .i64)).enc (r28)) rfl rfl) ?_
    refine rv 65 rfl rfl rfl (q_extract (vs := #[.int .i64 (r28.1), .int .i64 (r28.2)]) (v := .int .i64 (r28.1)) rfl rfl rfl) ?_
    refine rv 66 rfl rfl rfl (q_extract (vs := #[.int .i64 (r28.1), .int .i64 (r28.2)]) (v := .int .i64 (r28.2)) rfl rfl rfl) ?_
    refine rv 17 rfl rfl rfl (q_assign (v := .int .i64 (r28.1)) rfl rfl) ?_
    refine rv 18 rfl rfl rfl (q_assign (v := .int .i64 (r28.2)) rfl rfl) ?_
    refine ro_nil ?_
    refine wp_seq ?_
    refine wp_text [0, 1, 2] rfl ?_
    refine rv 67 rfl rfl rfl (q_move (v := .pointer (r2.1)) rfl rfl) ?_
    refine ro_wp rfl (.free rfl) (wp_cl (d := (some 68)) rfl (q_call (k := 25) (l := [.pointer (r2.1), .int .i64 ((9 : Int))]) rfl ent25 rfl) h ?_)
    intro r30 w29 h
    refine rv 19 rfl rfl rfl (q_assign (v := .int .i64 (r30)) rfl rfl) ?_
    refine ro_nil ?_
    refine wp_seq ?_
    refine wp_text [0, 1, 2, 3, 4, 5, 6, 7, 8, 9, 10, 11, 12, 13, 14, 15, 16, 17, 18, 19, 20, 21, 22, 23, 24, 25, 26, 27, 28, 29, 30, 31, 32, 33, 34, 35, 36, 37, 38, 39, 40, 41, 42, 43, 44, 45, 46, 47, 48, 49, 50, 51, 52, 53, 54, 55, 56, 57, 58, 59, 60, 61, 62, 63, 64, 65, 66, 67, 68, 69, 70, 71, 72, 73, 74, 75, 76, 77, 78, 79, 80, 81, 82, 83, 84, 85, 86, 87, 88, 89, 90, 91, 92, 93, 94, 95, 96, 97, 98, 99, 100, 101, 102, 103, 104, 105, 106, 107, 108, 109, 110] rfl ?_
    refine rv 69 rfl rfl rfl (q_move (v := .int .i64 (r4)) rfl rfl) ?_
    refine rv 70 rfl rfl rfl (q_eql (a := r4) (b := (0 : Int)) rfl rfl rfl) ?_
    refine rv 71 rfl rfl rfl (q_move (v := .bool ((r4 == (0 : Int)))) rfl rfl) ?_
    refine ro_gval (g := (r4 == (0 : Int))) (d := (some 72)) rfl (.yes 2 71 true (r4 == (0 : Int)) rfl rfl rfl rfl) rfl (fun hg => q_move (v := .int .i64 (r6)) rfl rfl) ?_
    refine ro_gval (g := (r4 == (0 : Int))) (d := (some 73)) rfl (.yes 2 71 true (r4 == (0 : Int)) rfl rfl rfl rfl) rfl (fun hg => q_eql (k := .i64) (a := r6) (b := (0 : Int)) rfl (gvb_yes hg) rfl) ?_
    refine rv 74 rfl rfl rfl (q_pickGT (a := (r4 == (0 : Int))) (b := (r6 == (0 : Int))) rfl rfl rfl rfl) ?_
    refine rv 75 rfl rfl rfl (q_move (v := .bool (((r4 == (0 : Int)) && (r6 == (0 : Int))))) rfl rfl) ?_
    refine ro_gval (g := ((r4 == (0 : Int)) && (r6 == (0 : Int)))) (d := (some 76)) rfl (.yes 6 75 true ((r4 == (0 : Int)) && (r6 == (0 : Int))) rfl rfl rfl rfl) rfl (fun hg => q_move (v := .int .i64 (r8)) rfl rfl) ?_
    refine ro_gval (g := ((r4 == (0 : Int)) && (r6 == (0 : Int)))) (d := (some 77)) rfl (.yes 6 75 true ((r4 == (0 : Int)) && (r6 == (0 : Int))) rfl rfl rfl rfl) rfl (fun hg => q_eql (k := .i64) (a := r8) (b := (160 : Int)) rfl (gvb_yes hg) rfl) ?_
    refine rv 78 rfl rfl rfl (q_pickGT (a := ((r4 == (0 : Int)) && (r6 == (0 : Int)))) (b := (r8 == (160 : Int))) rfl rfl rfl rfl) ?_
    refine rv 79 rfl rfl rfl (q_move (v := .bool ((((r4 == (0 : Int)) && (r6 == (0 : Int))) && (r8 == (160 : Int))))) rfl rfl) ?_
    refine ro_gval (g := (((r4 == (0 : Int)) && (r6 == (0 : Int))) && (r8 == (160 : Int)))) (d := (some 80)) rfl (.yes 10 79 true (((r4 == (0 : Int)) && (r6 == (0 : Int))) && (r8 == (160 : Int))) rfl rfl rfl rfl) rfl (fun hg => q_move (v := .int .i64 (r10)) rfl rfl) ?_
    refine ro_gval (g := (((r4 == (0 : Int)) && (r6 == (0 : Int))) && (r8 == (160 : Int)))) (d := (some 81)) rfl (.yes 10 79 true (((r4 == (0 : Int)) && (r6 == (0 : Int))) && (r8 == (160 : Int))) rfl rfl rfl rfl) rfl (fun hg => q_eql (k := .i64) (a := r10) (b := (160 : Int)) rfl (gvb_yes hg) rfl) ?_
    refine rv 82 rfl rfl rfl (q_pickGT (a := (((r4 == (0 : Int)) && (r6 == (0 : Int))) && (r8 == (160 : Int)))) (b := (r10 == (160 : Int))) rfl rfl rfl rfl) ?_
    refine rv 83 rfl rfl rfl (q_move (v := .bool (((((r4 == (0 : Int)) && (r6 == (0 : Int))) && (r8 == (160 : Int))) && (r10 == (160 : Int))))) rfl rfl) ?_
    refine ro_gval (g := ((((r4 == (0 : Int)) && (r6 == (0 : Int))) && (r8 == (160 : Int))) && (r10 == (160 : Int)))) (d := (some 84)) rfl (.yes 14 83 true ((((r4 == (0 : Int)) && (r6 == (0 : Int))) && (r8 == (160 : Int))) && (r10 == (160 : Int))) rfl rfl rfl rfl) rfl (fun hg => q_move (v := .int .i64 (r12)) rfl rfl) ?_
    refine ro_gval (g := ((((r4 == (0 : Int)) && (r6 == (0 : Int))) && (r8 == (160 : Int))) && (r10 == (160 : Int)))) (d := (some 85)) rfl (.yes 14 83 true ((((r4 == (0 : Int)) && (r6 == (0 : Int))) && (r8 == (160 : Int))) && (r10 == (160 : Int))) rfl rfl rfl rfl) rfl (fun hg => q_eql (k := .i64) (a := r12) (b := (0 : Int)) rfl (gvb_yes hg) rfl) ?_
    refine rv 86 rfl rfl rfl (q_pickGT (a := ((((r4 == (0 : Int)) && (r6 == (0 : Int))) && (r8 == (160 : Int))) && (r10 == (160 : Int)))) (b := (r12 == (0 : Int))) rfl rfl rfl rfl) ?_
    refine rv 87 rfl rfl rfl (q_move (v := .bool ((((((r4 == (0 : Int)) && (r6 == (0 : Int))) && (r8 == (160 : Int))) && (r10 == (160 : Int))) && (r12 == (0 : Int))))) rfl rfl) ?_
    refine ro_gval (g := (((((r4 == (0 : Int)) && (r6 == (0 : Int))) && (r8 == (160 : Int))) && (r10 == (160 : Int))) && (r12 == (0 : Int)))) (d := (some 88)) rfl (.yes 18 87 true (((((r4 == (0 : Int)) && (r6 == (0 : Int))) && (r8 == (160 : Int))) && (r10 == (160 : Int))) && (r12 == (0 : Int))) rfl rfl rfl rfl) rfl (fun hg => q_move (v := tSlc.enc (r14)) rfl rfl) ?_
    refine ro_gval (g := (((((r4 == (0 : Int)) && (r6 == (0 : Int))) && (r8 == (160 : Int))) && (r10 == (160 : Int))) && (r12 == (0 : Int)))) (d := (some 89)) rfl (.yes 18 87 true (((((r4 == (0 : Int)) && (r6 == (0 : Int))) && (r8 == (160 : Int))) && (r10 == (160 : Int))) && (r12 == (0 : Int))) rfl rfl rfl rfl) rfl (fun hg => q_len (s := r14) rfl Tryz.underlying50 (gvb_yes hg)) ?_
    refine ro_gval (g := (((((r4 == (0 : Int)) && (r6 == (0 : Int))) && (r8 == (160 : Int))) && (r10 == (160 : Int))) && (r12 == (0 : Int)))) (d := (some 90)) rfl (.yes 18 87 true (((((r4 == (0 : Int)) && (r6 == (0 : Int))) && (r8 == (160 : Int))) && (r10 == (160 : Int))) && (r12 == (0 : Int))) rfl rfl rfl rfl) rfl (fun hg => q_eql (k := .i64) (a := (r14.len : Int)) (b := (1 : Int)) rfl (gvb_yes hg) rfl) ?_
    refine rv 91 rfl rfl rfl (q_pickGT (a := (((((r4 == (0 : Int)) && (r6 == (0 : Int))) && (r8 == (160 : Int))) && (r10 == (160 : Int))) && (r12 == (0 : Int)))) (b := ((r14.len : Int) == (1 : Int))) rfl rfl rfl rfl) ?_
    refine rv 92 rfl rfl rfl (q_move (v := .bool (((((((r4 == (0 : Int)) && (r6 == (0 : Int))) && (r8 == (160 : Int))) && (r10 == (160 : Int))) && (r12 == (0 : Int))) && ((r14.len : Int) == (1 : Int))))) rfl rfl) ?_
    refine ro_gval (g := ((((((r4 == (0 : Int)) && (r6 == (0 : Int))) && (r8 == (160 : Int))) && (r10 == (160 : Int))) && (r12 == (0 : Int))) && ((r14.len : Int) == (1 : Int)))) (d := (some 93)) rfl (.yes 23 92 true ((((((r4 == (0 : Int)) && (r6 == (0 : Int))) && (r8 == (160 : Int))) && (r10 == (160 : Int))) && (r12 == (0 : Int))) && ((r14.len : Int) == (1 : Int))) rfl rfl rfl rfl) rfl (fun hg => q_move (v := tSlc.enc (r14)) rfl rfl) ?_
    obtain ⟨a31, ha31, h⟩ := h
    refine ro_gval (g := ((((((r4 == (0 : Int)) && (r6 == (0 : Int))) && (r8 == (160 : Int))) && (r10 == (160 : Int))) && (r12 == (0 : Int))) && ((r14.len : Int) == (1 : Int)))) (d := (some 94)) rfl (.yes 23 92 true ((((((r4 == (0 : Int)) && (r6 == (0 : Int))) && (r8 == (160 : Int))) && (r10 == (160 : Int))) && (r12 == (0 : Int))) && ((r14.len : Int) == (1 : Int))) rfl rfl rfl rfl) rfl (fun hg => q_indexAddr (s := r14) (k := .i64) (i := (0 : Int)) rfl Tryz.underlying50 ok55 (gvb_yes hg) rfl (ha31 hg)) ?_
    refine ro_gval (g := ((((((r4 == (0 : Int)) && (r6 == (0 : Int))) && (r8 == (160 : Int))) && (r10 == (160 : Int))) && (r12 == (0 : Int))) && ((r14.len : Int) == (1 : Int)))) (d := (some 95)) rfl (.yes 23 92 true ((((((r4 == (0 : Int)) && (r6 == (0 : Int))) && (r8 == (160 : Int))) && (r10 == (160 : Int))) && (r12 == (0 : Int))) && ((r14.len : Int) == (1 : Int))) rfl rfl rfl rfl) rfl (fun hg => q_fieldAddr (a := a31) (off := 5) rfl Tryz.underlying55 rfl rfl ok2 (by decide) (gvb_yes hg)) ?_
    obtain ⟨x32, hx32, h⟩ := h
    refine ro_gval (g := ((((((r4 == (0 : Int)) && (r6 == (0 : Int))) && (r8 == (160 : Int))) && (r10 == (160 : Int))) && (r12 == (0 : Int))) && ((r14.len : Int) == (1 : Int)))) (d := (some 96)) rfl (.yes 23 92 true ((((((r4 == (0 : Int)) && (r6 == (0 : Int))) && (r8 == (160 : Int))) && (r10 == (160 : Int))) && (r12 == (0 : Int))) && ((r14.len : Int) == (1 : Int))) rfl rfl rfl rfl) rfl (fun hg => q_load (T := (tInt .i64)) (u := x32) (a := (a31.add 5)) rfl ok2 (gvb_yes hg) (hx32 hg)) ?_
    refine ro_gval (g := ((((((r4 == (0 : Int)) && (r6 == (0 : Int))) && (r8 == (160 : Int))) && (r10 == (160 : Int))) && (r12 == (0 : Int))) && ((r14.len : Int) == (1 : Int)))) (d := (some 97)) rfl (.yes 23 92 true ((((((r4 == (0 : Int)) && (r6 == (0 : Int))) && (r8 == (160 : Int))) && (r10 == (160 : Int))) && (r12 == (0 : Int))) && ((r14.len : Int) == (1 : Int))) rfl rfl rfl rfl) rfl (fun hg => q_eql (k := .i64) (a := x32) (b := (2 : Int)) rfl (gvb_yes hg) rfl) ?_
    refine rv 98 rfl rfl rfl (q_pickGT (a := ((((((r4 == (0 : Int)) && (r6 == (0 : Int))) && (r8 == (160 : Int))) && (r10 == (160 : Int))) && (r12 == (0 : Int))) && ((r14.len : Int) == (1 : Int)))) (b := (x32 == (2 : Int))) rfl rfl rfl rfl) ?_
    refine rv 99 rfl rfl rfl (q_move (v := .bool ((((((((r4 == (0 : Int)) && (r6 == (0 : Int))) && (r8 == (160 : Int))) && (r10 == (160 : Int))) && (r12 == (0 : Int))) && ((r14.len : Int) == (1 : Int))) && (x32 == (2 : Int))))) rfl rfl) ?_
    refine ro_gval (g := (((((((r4 == (0 : Int)) && (r6 == (0 : Int))) && (r8 == (160 : Int))) && (r10 == (160 : Int))) && (r12 == (0 : Int))) && ((r14.len : Int) == (1 : Int))) && (x32 == (2 : Int)))) (d := (some 100)) rfl (.yes 30 99 true (((((((r4 == (0 : Int)) && (r6 == (0 : Int))) && (r8 == (160 : Int))) && (r10 == (160 : Int))) && (r12 == (0 : Int))) && ((r14.len : Int) == (1 : Int))) && (x32 == (2 : Int))) rfl rfl rfl rfl) rfl (fun hg => q_move (v := .int .i64 (r16)) rfl rfl) ?_
    refine ro_gval (g := (((((((r4 == (0 : Int)) && (r6 == (0 : Int))) && (r8 == (160 : Int))) && (r10 == (160 : Int))) && (r12 == (0 : Int))) && ((r14.len : Int) == (1 : Int))) && (x32 == (2 : Int)))) (d := (some 101)) rfl (.yes 30 99 true (((((((r4 == (0 : Int)) && (r6 == (0 : Int))) && (r8 == (160 : Int))) && (r10 == (160 : Int))) && (r12 == (0 : Int))) && ((r14.len : Int) == (1 : Int))) && (x32 == (2 : Int))) rfl rfl rfl rfl) rfl (fun hg => q_eql (k := .i64) (a := r16) (b := (0 : Int)) rfl (gvb_yes hg) rfl) ?_
    refine rv 102 rfl rfl rfl (q_pickGT (a := (((((((r4 == (0 : Int)) && (r6 == (0 : Int))) && (r8 == (160 : Int))) && (r10 == (160 : Int))) && (r12 == (0 : Int))) && ((r14.len : Int) == (1 : Int))) && (x32 == (2 : Int)))) (b := (r16 == (0 : Int))) rfl rfl rfl rfl) ?_
    refine rv 103 rfl rfl rfl (q_move (v := .bool (((((((((r4 == (0 : Int)) && (r6 == (0 : Int))) && (r8 == (160 : Int))) && (r10 == (160 : Int))) && (r12 == (0 : Int))) && ((r14.len : Int) == (1 : Int))) && (x32 == (2 : Int))) && (r16 == (0 : Int))))) rfl rfl) ?_
    refine ro_gval (g := ((((((((r4 == (0 : Int)) && (r6 == (0 : Int))) && (r8 == (160 : Int))) && (r10 == (160 : Int))) && (r12 == (0 : Int))) && ((r14.len : Int) == (1 : Int))) && (x32 == (2 : Int))) && (r16 == (0 : Int)))) (d := (some 104)) rfl (.yes 34 103 true ((((((((r4 == (0 : Int)) && (r6 == (0 : Int))) && (r8 == (160 : Int))) && (r10 == (160 : Int))) && (r12 == (0 : Int))) && ((r14.len : Int) == (1 : Int))) && (x32 == (2 : Int))) && (r16 == (0 : Int))) rfl rfl rfl rfl) rfl (fun hg => q_move (v := .int .i64 (r18)) rfl rfl) ?_
    refine ro_gval (g := ((((((((r4 == (0 : Int)) && (r6 == (0 : Int))) && (r8 == (160 : Int))) && (r10 == (160 : Int))) && (r12 == (0 : Int))) && ((r14.len : Int) == (1 : Int))) && (x32 == (2 : Int))) && (r16 == (0 : Int)))) (d := (some 105)) rfl (.yes 34 103 true ((((((((r4 == (0 : Int)) && (r6 == (0 : Int))) && (r8 == (160 : Int))) && (r10 == (160 : Int))) && (r12 == (0 : Int))) && ((r14.len : Int) == (1 : Int))) && (x32 == (2 : Int))) && (r16 == (0 : Int))) rfl rfl rfl rfl) rfl (fun hg => q_eql (k := .i64) (a := r18) (b := (0 : Int)) rfl (gvb_yes hg) rfl) ?_
    refine rv 106 rfl rfl rfl (q_pickGT (a := ((((((((r4 == (0 : Int)) && (r6 == (0 : Int))) && (r8 == (160 : Int))) && (r10 == (160 : Int))) && (r12 == (0 : Int))) && ((r14.len : Int) == (1 : Int))) && (x32 == (2 : Int))) && (r16 == (0 : Int)))) (b := (r18 == (0 : Int))) rfl rfl rfl rfl) ?_
    refine rv 107 rfl rfl rfl (q_move (v := .bool ((((((((((r4 == (0 : Int)) && (r6 == (0 : Int))) && (r8 == (160 : Int))) && (r10 == (160 : Int))) && (r12 == (0 : Int))) && ((r14.len : Int) == (1 : Int))) && (x32 == (2 : Int))) && (r16 == (0 : Int))) && (r18 == (0 : Int))))) rfl rfl) ?_
    refine ro_gval (g := (((((((((r4 == (0 : Int)) && (r6 == (0 : Int))) && (r8 == (160 : Int))) && (r10 == (160 : Int))) && (r12 == (0 : Int))) && ((r14.len : Int) == (1 : Int))) && (x32 == (2 : Int))) && (r16 == (0 : Int))) && (r18 == (0 : Int)))) (d := (some 108)) rfl (.yes 38 107 true (((((((((r4 == (0 : Int)) && (r6 == (0 : Int))) && (r8 == (160 : Int))) && (r10 == (160 : Int))) && (r12 == (0 : Int))) && ((r14.len : Int) == (1 : Int))) && (x32 == (2 : Int))) && (r16 == (0 : Int))) && (r18 == (0 : Int))) rfl rfl rfl rfl) rfl (fun hg => q_move (v := .int .i64 (r20.1)) rfl rfl) ?_
    refine ro_gval (g := (((((((((r4 == (0 : Int)) && (r6 == (0 : Int))) && (r8 == (160 : Int))) && (r10 == (160 : Int))) && (r12 == (0 : Int))) && ((r14.len : Int) == (1 : Int))) && (x32 == (2 : Int))) && (r16 == (0 : Int))) && (r18 == (0 : Int)))) (d := (some 109)) rfl (.yes 38 107 true (((((((((r4 == (0 : Int)) && (r6 == (0 : Int))) && (r8 == (160 : Int))) && (r10 == (160 : Int))) && (r12 == (0 : Int))) && ((r14.len : Int) == (1 : Int))) && (x32 == (2 : Int))) && (r16 == (0 : Int))) && (r18 == (0 : Int))) rfl rfl rfl rfl) rfl (fun hg => q_eql (k := .i64) (a := r20.1) (b := (1000 : Int)) rfl (gvb_yes hg) rfl) ?_
    refine rv 110 rfl rfl rfl (q_pickGT (a := (((((((((r4 == (0 : Int)) && (r6 == (0 : Int))) && (r8 == (160 : Int))) && (r10 == (160 : Int))) && (r12 == (0 : Int))) && ((r14.len : Int) == (1 : Int))) && (x32 == (2 : Int))) && (r16 == (0 : Int))) && (r18 == (0 : Int)))) (b := (r20.1 == (1000 : Int))) rfl rfl rfl rfl) ?_
    refine rv 111 rfl rfl rfl (q_move (v := .bool (((((((((((r4 == (0 : Int)) && (r6 == (0 : Int))) && (r8 == (160 : Int))) && (r10 == (160 : Int))) && (r12 == (0 : Int))) && ((r14.len : Int) == (1 : Int))) && (x32 == (2 : Int))) && (r16 == (0 : Int))) && (r18 == (0 : Int))) && (r20.1 == (1000 : Int))))) rfl rfl) ?_
    refine ro_gval (g := ((((((((((r4 == (0 : Int)) && (r6 == (0 : Int))) && (r8 == (160 : Int))) && (r10 == (160 : Int))) && (r12 == (0 : Int))) && ((r14.len : Int) == (1 : Int))) && (x32 == (2 : Int))) && (r16 == (0 : Int))) && (r18 == (0 : Int))) && (r20.1 == (1000 : Int)))) (d := (some 112)) rfl (.yes 42 111 true ((((((((((r4 == (0 : Int)) && (r6 == (0 : Int))) && (r8 == (160 : Int))) && (r10 == (160 : Int))) && (r12 == (0 : Int))) && ((r14.len : Int) == (1 : Int))) && (x32 == (2 : Int))) && (r16 == (0 : Int))) && (r18 == (0 : Int))) && (r20.1 == (1000 : Int))) rfl rfl rfl rfl) rfl (fun hg => q_move (v := .int .i64 (r20.2)) rfl rfl) ?_
    refine ro_gval (g := ((((((((((r4 == (0 : Int)) && (r6 == (0 : Int))) && (r8 == (160 : Int))) && (r10 == (160 : Int))) && (r12 == (0 : Int))) && ((r14.len : Int) == (1 : Int))) && (x32 == (2 : Int))) && (r16 == (0 : Int))) && (r18 == (0 : Int))) && (r20.1 == (1000 : Int)))) (d := (some 113)) rfl (.yes 42 111 true ((((((((((r4 == (0 : Int)) && (r6 == (0 : Int))) && (r8 == (160 : Int))) && (r10 == (160 : Int))) && (r12 == (0 : Int))) && ((r14.len : Int) == (1 : Int))) && (x32 == (2 : Int))) && (r16 == (0 : Int))) && (r18 == (0 : Int))) && (r20.1 == (1000 : Int))) rfl rfl rfl rfl) rfl (fun hg => q_eql (k := .i64) (a := r20.2) (b := (0 : Int)) rfl (gvb_yes hg) rfl) ?_
    refine rv 114 rfl rfl rfl (q_pickGT (a := ((((((((((r4 == (0 : Int)) && (r6 == (0 : Int))) && (r8 == (160 : Int))) && (r10 == (160 : Int))) && (r12 == (0 : Int))) && ((r14.len : Int) == (1 : Int))) && (x32 == (2 : Int))) && (r16 == (0 : Int))) && (r18 == (0 : Int))) && (r20.1 == (1000 : Int)))) (b := (r20.2 == (0 : Int))) rfl rfl rfl rfl) ?_
    refine rv 115 rfl rfl rfl (q_move (v := .bool ((((((((((((r4 == (0 : Int)) && (r6 == (0 : Int))) && (r8 == (160 : Int))) && (r10 == (160 : Int))) && (r12 == (0 : Int))) && ((r14.len : Int) == (1 : Int))) && (x32 == (2 : Int))) && (r16 == (0 : Int))) && (r18 == (0 : Int))) && (r20.1 == (1000 : Int))) && (r20.2 == (0 : Int))))) rfl rfl) ?_
    refine ro_gval (g := (((((((((((r4 == (0 : Int)) && (r6 == (0 : Int))) && (r8 == (160 : Int))) && (r10 == (160 : Int))) && (r12 == (0 : Int))) && ((r14.len : Int) == (1 : Int))) && (x32 == (2 : Int))) && (r16 == (0 : Int))) && (r18 == (0 : Int))) && (r20.1 == (1000 : Int))) && (r20.2 == (0 : Int)))) (d := (some 116)) rfl (.yes 46 115 true (((((((((((r4 == (0 : Int)) && (r6 == (0 : Int))) && (r8 == (160 : Int))) && (r10 == (160 : Int))) && (r12 == (0 : Int))) && ((r14.len : Int) == (1 : Int))) && (x32 == (2 : Int))) && (r16 == (0 : Int))) && (r18 == (0 : Int))) && (r20.1 == (1000 : Int))) && (r20.2 == (0 : Int))) rfl rfl rfl rfl) rfl (fun hg => q_move (v := .int .i64 (r22.2)) rfl rfl) ?_
    refine ro_gval (g := (((((((((((r4 == (0 : Int)) && (r6 == (0 : Int))) && (r8 == (160 : Int))) && (r10 == (160 : Int))) && (r12 == (0 : Int))) && ((r14.len : Int) == (1 : Int))) && (x32 == (2 : Int))) && (r16 == (0 : Int))) && (r18 == (0 : Int))) && (r20.1 == (1000 : Int))) && (r20.2 == (0 : Int)))) (d := (some 117)) rfl (.yes 46 115 true (((((((((((r4 == (0 : Int)) && (r6 == (0 : Int))) && (r8 == (160 : Int))) && (r10 == (160 : Int))) && (r12 == (0 : Int))) && ((r14.len : Int) == (1 : Int))) && (x32 == (2 : Int))) && (r16 == (0 : Int))) && (r18 == (0 : Int))) && (r20.1 == (1000 : Int))) && (r20.2 == (0 : Int))) rfl rfl rfl rfl) rfl (fun hg => q_eql (k := .i64) (a := r22.2) (b := (0 : Int)) rfl (gvb_yes hg) rfl) ?_
    refine rv 118 rfl rfl rfl (q_pickGT (a := (((((((((((r4 == (0 : Int)) && (r6 == (0 : Int))) && (r8 == (160 : Int))) && (r10 == (160 : Int))) && (r12 == (0 : Int))) && ((r14.len : Int) == (1 : Int))) && (x32 == (2 : Int))) && (r16 == (0 : Int))) && (r18 == (0 : Int))) && (r20.1 == (1000 : Int))) && (r20.2 == (0 : Int)))) (b := (r22.2 == (0 : Int))) rfl rfl rfl rfl) ?_
    refine rv 119 rfl rfl rfl (q_move (v := .bool (((((((((((((r4 == (0 : Int)) && (r6 == (0 : Int))) && (r8 == (160 : Int))) && (r10 == (160 : Int))) && (r12 == (0 : Int))) && ((r14.len : Int) == (1 : Int))) && (x32 == (2 : Int))) && (r16 == (0 : Int))) && (r18 == (0 : Int))) && (r20.1 == (1000 : Int))) && (r20.2 == (0 : Int))) && (r22.2 == (0 : Int))))) rfl rfl) ?_
    refine ro_gval (g := ((((((((((((r4 == (0 : Int)) && (r6 == (0 : Int))) && (r8 == (160 : Int))) && (r10 == (160 : Int))) && (r12 == (0 : Int))) && ((r14.len : Int) == (1 : Int))) && (x32 == (2 : Int))) && (r16 == (0 : Int))) && (r18 == (0 : Int))) && (r20.1 == (1000 : Int))) && (r20.2 == (0 : Int))) && (r22.2 == (0 : Int)))) (d := (some 120)) rfl (.yes 50 119 true ((((((((((((r4 == (0 : Int)) && (r6 == (0 : Int))) && (r8 == (160 : Int))) && (r10 == (160 : Int))) && (r12 == (0 : Int))) && ((r14.len : Int) == (1 : Int))) && (x32 == (2 : Int))) && (r16 == (0 : Int))) && (r18 == (0 : Int))) && (r20.1 == (1000 : Int))) && (r20.2 == (0 : Int))) && (r22.2 == (0 : Int))) rfl rfl rfl rfl) rfl (fun hg => q_move (v := tSlc.enc (r22.1)) rfl rfl) ?_
    refine ro_gval (g := ((((((((((((r4 == (0 : Int)) && (r6 == (0 : Int))) && (r8 == (160 : Int))) && (r10 == (160 : Int))) && (r12 == (0 : Int))) && ((r14.len : Int) == (1 : Int))) && (x32 == (2 : Int))) && (r16 == (0 : Int))) && (r18 == (0 : Int))) && (r20.1 == (1000 : Int))) && (r20.2 == (0 : Int))) && (r22.2 == (0 : Int)))) (d := (some 121)) rfl (.yes 50 119 true ((((((((((((r4 == (0 : Int)) && (r6 == (0 : Int))) && (r8 == (160 : Int))) && (r10 == (160 : Int))) && (r12 == (0 : Int))) && ((r14.len : Int) == (1 : Int))) && (x32 == (2 : Int))) && (r16 == (0 : Int))) && (r18 == (0 : Int))) && (r20.1 == (1000 : Int))) && (r20.2 == (0 : Int))) && (r22.2 == (0 : Int))) rfl rfl rfl rfl) rfl (fun hg => q_len (s := r22.1) rfl Tryz.underlying36 (gvb_yes hg)) ?_
    refine ro_gval (g := ((((((((((((r4 == (0 : Int)) && (r6 == (0 : Int))) && (r8 == (160 : Int))) && (r10 == (160 : Int))) && (r12 == (0 : Int))) && ((r14.len : Int) == (1 : Int))) && (x32 == (2 : Int))) && (r16 == (0 : Int))) && (r18 == (0 : Int))) && (r20.1 == (1000 : Int))) && (r20.2 == (0 : Int))) && (r22.2 == (0 : Int)))) (d := (some 122)) rfl (.yes 50 119 true ((((((((((((r4 == (0 : Int)) && (r6 == (0 : Int))) && (r8 == (160 : Int))) && (r10 == (160 : Int))) && (r12 == (0 : Int))) && ((r14.len : Int) == (1 : Int))) && (x32 == (2 : Int))) && (r16 == (0 : Int))) && (r18 == (0 : Int))) && (r20.1 == (1000 : Int))) && (r20.2 == (0 : Int))) && (r22.2 == (0 : Int))) rfl rfl rfl rfl) rfl (fun hg => q_eql (k := .i64) (a := (r22.1.len : Int)) (b := (2 : Int)) rfl (gvb_yes hg) rfl) ?_
    refine rv 123 rfl rfl rfl (q_pickGT (a := ((((((((((((r4 == (0 : Int)) && (r6 == (0 : Int))) && (r8 == (160 : Int))) && (r10 == (160 : Int))) && (r12 == (0 : Int))) && ((r14.len : Int) == (1 : Int))) && (x32 == (2 : Int))) && (r16 == (0 : Int))) && (r18 == (0 : Int))) && (r20.1 == (1000 : Int))) && (r20.2 == (0 : Int))) && (r22.2 == (0 : Int)))) (b := ((r22.1.len : Int) == (2 : Int))) rfl rfl rfl rfl) ?_
    refine rv 124 rfl rfl rfl (q_move (v := .bool ((((((((((((((r4 == (0 : Int)) && (r6 == (0 : Int))) && (r8 == (160 : Int))) && (r10 == (160 : Int))) && (r12 == (0 : Int))) && ((r14.len : Int) == (1 : Int))) && (x32 == (2 : Int))) && (r16 == (0 : Int))) && (r18 == (0 : Int))) && (r20.1 == (1000 : Int))) && (r20.2 == (0 : Int))) && (r22.2 == (0 : Int))) && ((r22.1.len : Int) == (2 : Int))))) rfl rfl) ?_
    refine ro_gval (g := (((((((((((((r4 == (0 : Int)) && (r6 == (0 : Int))) && (r8 == (160 : Int))) && (r10 == (160 : Int))) && (r12 == (0 : Int))) && ((r14.len : Int) == (1 : Int))) && (x32 == (2 : Int))) && (r16 == (0 : Int))) && (r18 == (0 : Int))) && (r20.1 == (1000 : Int))) && (r20.2 == (0 : Int))) && (r22.2 == (0 : Int))) && ((r22.1.len : Int) == (2 : Int)))) (d := (some 125)) rfl (.yes 55 124 true (((((((((((((r4 == (0 : Int)) && (r6 == (0 : Int))) && (r8 == (160 : Int))) && (r10 == (160 : Int))) && (r12 == (0 : Int))) && ((r14.len : Int) == (1 : Int))) && (x32 == (2 : Int))) && (r16 == (0 : Int))) && (r18 == (0 : Int))) && (r20.1 == (1000 : Int))) && (r20.2 == (0 : Int))) && (r22.2 == (0 : Int))) && ((r22.1.len : Int) == (2 : Int))) rfl rfl rfl rfl) rfl (fun hg => q_move (v := tSlc.enc (r22.1)) rfl rfl) ?_
    obtain ⟨a33, ha33, h⟩ := h
    refine ro_gval (g := (((((((((((((r4 == (0 : Int)) && (r6 == (0 : Int))) && (r8 == (160 : Int))) && (r10 == (160 : Int))) && (r12 == (0 : Int))) && ((r14.len : Int) == (1 : Int))) && (x32 == (2 : Int))) && (r16 == (0 : Int))) && (r18 == (0 : Int))) && (r20.1 == (1000 : Int))) && (r20.2 == (0 : Int))) && (r22.2 == (0 : Int))) && ((r22.1.len : Int) == (2 : Int)))) (d := (some 126)) rfl (.yes 55 124 true (((((((((((((r4 == (0 : Int)) && (r6 == (0 : Int))) && (r8 == (160 : Int))) && (r10 == (160 : Int))) && (r12 == (0 : Int))) && ((r14.len : Int) == (1 : Int))) && (x32 == (2 : Int))) && (r16 == (0 : Int))) && (r18 == (0 : Int))) && (r20.1 == (1000 : Int))) && (r20.2 == (0 : Int))) && (r22.2 == (0 : Int))) && ((r22.1.len : Int) == (2 : Int))) rfl rfl rfl rfl) rfl (fun hg => q_indexAddr (s := r22.1) (k := .i64) (i := (0 : Int)) rfl Tryz.underlying36 ok63 (gvb_yes hg) rfl (ha33 hg)) ?_
    refine ro_gval (g := (((((((((((((r4 == (0 : Int)) && (r6 == (0 : Int))) && (r8 == (160 : Int))) && (r10 == (160 : Int))) && (r12 == (0 : Int))) && ((r14.len : Int) == (1 : Int))) && (x32 == (2 : Int))) && (r16 == (0 : Int))) && (r18 == (0 : Int))) && (r20.1 == (1000 : Int))) && (r20.2 == (0 : Int))) && (r22.2 == (0 : Int))) && ((r22.1.len : Int) == (2 : Int)))) (d := (some 127)) rfl (.yes 55 124 true (((((((((((((r4 == (0 : Int)) && (r6 == (0 : Int))) && (r8 == (160 : Int))) && (r10 == (160 : Int))) && (r12 == (0 : Int))) && ((r14.len : Int) == (1 : Int))) && (x32 == (2 : Int))) && (r16 == (0 : Int))) && (r18 == (0 : Int))) && (r20.1 == (1000 : Int))) && (r20.2 == (0 : Int))) && (r22.2 == (0 : Int))) && ((r22.1.len : Int) == (2 : Int))) rfl rfl rfl rfl) rfl (fun hg => q_fieldAddr (a := a33) (off := 1) rfl Tryz.underlying63 rfl rfl ok2 (by decide) (gvb_yes hg)) ?_
    obtain ⟨x34, hx34, h⟩ := h
    refine ro_gval (g := (((((((((((((r4 == (0 : Int)) && (r6 == (0 : Int))) && (r8 == (160 : Int))) && (r10 == (160 : Int))) && (r12 == (0 : Int))) && ((r14.len : Int) == (1 : Int))) && (x32 == (2 : Int))) && (r16 == (0 : Int))) && (r18 == (0 : Int))) && (r20.1 == (1000 : Int))) && (r20.2 == (0 : Int))) && (r22.2 == (0 : Int))) && ((r22.1.len : Int) == (2 : Int)))) (d := (some 128)) rfl (.yes 55 124 true (((((((((((((r4 == (0 : Int)) && (r6 == (0 : Int))) && (r8 == (160 : Int))) && (r10 == (160 : Int))) && (r12 == (0 : Int))) && ((r14.len : Int) == (1 : Int))) && (x32 == (2 : Int))) && (r16 == (0 : Int))) && (r18 == (0 : Int))) && (r20.1 == (1000 : Int))) && (r20.2 == (0 : Int))) && (r22.2 == (0 : Int))) && ((r22.1.len : Int) == (2 : Int))) rfl rfl rfl rfl) rfl (fun hg => q_load (T := (tInt .i64)) (u := x34) (a := (a33.add 1)) rfl ok2 (gvb_yes hg) (hx34 hg)) ?_
    refine ro_gval (g := (((((((((((((r4 == (0 : Int)) && (r6 == (0 : Int))) && (r8 == (160 : Int))) && (r10 == (160 : Int))) && (r12 == (0 : Int))) && ((r14.len : Int) == (1 : Int))) && (x32 == (2 : Int))) && (r16 == (0 : Int))) && (r18 == (0 : Int))) && (r20.1 == (1000 : Int))) && (r20.2 == (0 : Int))) && (r22.2 == (0 : Int))) && ((r22.1.len : Int) == (2 : Int)))) (d := (some 129)) rfl (.yes 55 124 true (((((((((((((r4 == (0 : Int)) && (r6 == (0 : Int))) && (r8 == (160 : Int))) && (r10 == (160 : Int))) && (r12 == (0 : Int))) && ((r14.len : Int) == (1 : Int))) && (x32 == (2 : Int))) && (r16 == (0 : Int))) && (r18 == (0 : Int))) && (r20.1 == (1000 : Int))) && (r20.2 == (0 : Int))) && (r22.2 == (0 : Int))) && ((r22.1.len : Int) == (2 : Int))) rfl rfl rfl rfl) rfl (fun hg => q_eql (k := .i64) (a := x34) (b := (798 : Int)) rfl (gvb_yes hg) rfl) ?_
    refine rv 130 rfl rfl rfl (q_pickGT (a := (((((((((((((r4 == (0 : Int)) && (r6 == (0 : Int))) && (r8 == (160 : Int))) && (r10 == (160 : Int))) && (r12 == (0 : Int))) && ((r14.len : Int) == (1 : Int))) && (x32 == (2 : Int))) && (r16 == (0 : Int))) && (r18 == (0 : Int))) && (r20.1 == (1000 : Int))) && (r20.2 == (0 : Int))) && (r22.2 == (0 : Int))) && ((r22.1.len : Int) == (2 : Int)))) (b := (x34 == (798 : Int))) rfl rfl rfl rfl) ?_
    refine rv 131 rfl rfl rfl (q_move (v := .bool (((((((((((((((r4 == (0 : Int)) && (r6 == (0 : Int))) && (r8 == (160 : Int))) && (r10 == (160 : Int))) && (r12 == (0 : Int))) && ((r14.len : Int) == (1 : Int))) && (x32 == (2 : Int))) && (r16 == (0 : Int))) && (r18 == (0 : Int))) && (r20.1 == (1000 : Int))) && (r20.2 == (0 : Int))) && (r22.2 == (0 : Int))) && ((r22.1.len : Int) == (2 : Int))) && (x34 == (798 : Int))))) rfl rfl) ?_
    refine ro_gval (g := ((((((((((((((r4 == (0 : Int)) && (r6 == (0 : Int))) && (r8 == (160 : Int))) && (r10 == (160 : Int))) && (r12 == (0 : Int))) && ((r14.len : Int) == (1 : Int))) && (x32 == (2 : Int))) && (r16 == (0 : Int))) && (r18 == (0 : Int))) && (r20.1 == (1000 : Int))) && (r20.2 == (0 : Int))) && (r22.2 == (0 : Int))) && ((r22.1.len : Int) == (2 : Int))) && (x34 == (798 : Int)))) (d := (some 132)) rfl (.yes 62 131 true ((((((((((((((r4 == (0 : Int)) && (r6 == (0 : Int))) && (r8 == (160 : Int))) && (r10 == (160 : Int))) && (r12 == (0 : Int))) && ((r14.len : Int) == (1 : Int))) && (x32 == (2 : Int))) && (r16 == (0 : Int))) && (r18 == (0 : Int))) && (r20.1 == (1000 : Int))) && (r20.2 == (0 : Int))) && (r22.2 == (0 : Int))) && ((r22.1.len : Int) == (2 : Int))) && (x34 == (798 : Int))) rfl rfl rfl rfl) rfl (fun hg => q_move (v := tSlc.enc (r22.1)) rfl rfl) ?_
    obtain ⟨a35, ha35, h⟩ := h
    refine ro_gval (g := ((((((((((((((r4 == (0 : Int)) && (r6 == (0 : Int))) && (r8 == (160 : Int))) && (r10 == (160 : Int))) && (r12 == (0 : Int))) && ((r14.len : Int) == (1 : Int))) && (x32 == (2 : Int))) && (r16 == (0 : Int))) && (r18 == (0 : Int))) && (r20.1 == (1000 : Int))) && (r20.2 == (0 : Int))) && (r22.2 == (0 : Int))) && ((r22.1.len : Int) == (2 : Int))) && (x34 == (798 : Int)))) (d := (some 133)) rfl (.yes 62 131 true ((((((((((((((r4 == (0 : Int)) && (r6 == (0 : Int))) && (r8 == (160 : Int))) && (r10 == (160 : Int))) && (r12 == (0 : Int))) && ((r14.len : Int) == (1 : Int))) && (x32 == (2 : Int))) && (r16 == (0 : Int))) && (r18 == (0 : Int))) && (r20.1 == (1000 : Int))) && (r20.2 == (0 : Int))) && (r22.2 == (0 : Int))) && ((r22.1.len : Int) == (2 : Int))) && (x34 == (798 : Int))) rfl rfl rfl rfl) rfl (fun hg => q_indexAddr (s := r22.1) (k := .i64) (i := (1 : Int)) rfl Tryz.underlying36 ok63 (gvb_yes hg) rfl (ha35 hg)) ?_
    refine ro_gval (g := ((((((((((((((r4 == (0 : Int)) && (r6 == (0 : Int))) && (r8 == (160 : Int))) && (r10 == (160 : Int))) && (r12 == (0 : Int))) && ((r14.len : Int) == (1 : Int))) && (x32 == (2 : Int))) && (r16 == (0 : Int))) && (r18 == (0 : Int))) && (r20.1 == (1000 : Int))) && (r20.2 == (0 : Int))) && (r22.2 == (0 : Int))) && ((r22.1.len : Int) == (2 : Int))) && (x34 == (798 : Int)))) (d := (some 134)) rfl (.yes 62 131 true ((((((((((((((r4 == (0 : Int)) && (r6 == (0 : Int))) && (r8 == (160 : Int))) && (r10 == (160 : Int))) && (r12 == (0 : Int))) && ((r14.len : Int) == (1 : Int))) && (x32 == (2 : Int))) && (r16 == (0 : Int))) && (r18 == (0 : Int))) && (r20.1 == (1000 : Int))) && (r20.2 == (0 : Int))) && (r22.2 == (0 : Int))) && ((r22.1.len : Int) == (2 : Int))) && (x34 == (798 : Int))) rfl rfl rfl rfl) rfl (fun hg => q_fieldAddr (a := a35) (off := 0) rfl Tryz.underlying63 rfl rfl ok3 (by decide) (gvb_yes hg)) ?_
    obtain ⟨x36, hx36, h⟩ := h
    refine ro_gval (g := ((((((((((((((r4 == (0 : Int)) && (r6 == (0 : Int))) && (r8 == (160 : Int))) && (r10 == (160 : Int))) && (r12 == (0 : Int))) && ((r14.len : Int) == (1 : Int))) && (x32 == (2 : Int))) && (r16 == (0 : Int))) && (r18 == (0 : Int))) && (r20.1 == (1000 : Int))) && (r20.2 == (0 : Int))) && (r22.2 == (0 : Int))) && ((r22.1.len : Int) == (2 : Int))) && (x34 == (798 : Int)))) (d := (some 135)) rfl (.yes 62 131 true ((((((((((((((r4 == (0 : Int)) && (r6 == (0 : Int))) && (r8 == (160 : Int))) && (r10 == (160 : Int))) && (r12 == (0 : Int))) && ((r14.len : Int) == (1 : Int))) && (x32 == (2 : Int))) && (r16 == (0 : Int))) && (r18 == (0 : Int))) && (r20.1 == (1000 : Int))) && (r20.2 == (0 : Int))) && (r22.2 == (0 : Int))) && ((r22.1.len : Int) == (2 : Int))) && (x34 == (798 : Int))) rfl rfl rfl rfl) rfl (fun hg => q_load (T := (tInt .i64)) (u := x36) (a := (a35.add 0)) rfl ok3 (gvb_yes hg) (hx36 hg)) ?_
    refine ro_gval (g := ((((((((((((((r4 == (0 : Int)) && (r6 == (0 : Int))) && (r8 == (160 : Int))) && (r10 == (160 : Int))) && (r12 == (0 : Int))) && ((r14.len : Int) == (1 : Int))) && (x32 == (2 : Int))) && (r16 == (0 : Int))) && (r18 == (0 : Int))) && (r20.1 == (1000 : Int))) && (r20.2 == (0 : Int))) && (r22.2 == (0 : Int))) && ((r22.1.len : Int) == (2 : Int))) && (x34 == (798 : Int)))) (d := (some 136)) rfl (.yes 62 131 true ((((((((((((((r4 == (0 : Int)) && (r6 == (0 : Int))) && (r8 == (160 : Int))) && (r10 == (160 : Int))) && (r12 == (0 : Int))) && ((r14.len : Int) == (1 : Int))) && (x32 == (2 : Int))) && (r16 == (0 : Int))) && (r18 == (0 : Int))) && (r20.1 == (1000 : Int))) && (r20.2 == (0 : Int))) && (r22.2 == (0 : Int))) && ((r22.1.len : Int) == (2 : Int))) && (x34 == (798 : Int))) rfl rfl rfl rfl) rfl (fun hg => q_eql (k := .i64) (a := x36) (b := (4103 : Int)) rfl (gvb_yes hg) rfl) ?_
    refine rv 137 rfl rfl rfl (q_pickGT (a := ((((((((((((((r4 == (0 : Int)) && (r6 == (0 : Int))) && (r8 == (160 : Int))) && (r10 == (160 : Int))) && (r12 == (0 : Int))) && ((r14.len : Int) == (1 : Int))) && (x32 == (2 : Int))) && (r16 == (0 : Int))) && (r18 == (0 : Int))) && (r20.1 == (1000 : Int))) && (r20.2 == (0 : Int))) && (r22.2 == (0 : Int))) && ((r22.1.len : Int) == (2 : Int))) && (x34 == (798 : Int)))) (b := (x36 == (4103 : Int))) rfl rfl rfl rfl) ?_
    refine rv 138 rfl rfl rfl (q_move (v := .bool ((((((((((((((((r4 == (0 : Int)) && (r6 == (0 : Int))) && (r8 == (160 : Int))) && (r10 == (160 : Int))) && (r12 == (0 : Int))) && ((r14.len : Int) == (1 : Int))) && (x32 == (2 : Int))) && (r16 == (0 : Int))) && (r18 == (0 : Int))) && (r20.1 == (1000 : Int))) && (r20.2 == (0 : Int))) && (r22.2 == (0 : Int))) && ((r22.1.len : Int) == (2 : Int))) && (x34 == (798 : Int))) && (x36 == (4103 : Int))))) rfl rfl) ?_
    refine ro_gval (g := (((((((((((((((r4 == (0 : Int)) && (r6 == (0 : Int))) && (r8 == (160 : Int))) && (r10 == (160 : Int))) && (r12 == (0 : Int))) && ((r14.len : Int) == (1 : Int))) && (x32 == (2 : Int))) && (r16 == (0 : Int))) && (r18 == (0 : Int))) && (r20.1 == (1000 : Int))) && (r20.2 == (0 : Int))) && (r22.2 == (0 : Int))) && ((r22.1.len : Int) == (2 : Int))) && (x34 == (798 : Int))) && (x36 == (4103 : Int)))) (d := (some 139)) rfl (.yes 69 138 true (((((((((((((((r4 == (0 : Int)) && (r6 == (0 : Int))) && (r8 == (160 : Int))) && (r10 == (160 : Int))) && (r12 == (0 : Int))) && ((r14.len : Int) == (1 : Int))) && (x32 == (2 : Int))) && (r16 == (0 : Int))) && (r18 == (0 : Int))) && (r20.1 == (1000 : Int))) && (r20.2 == (0 : Int))) && (r22.2 == (0 : Int))) && ((r22.1.len : Int) == (2 : Int))) && (x34 == (798 : Int))) && (x36 == (4103 : Int))) rfl rfl rfl rfl) rfl (fun hg => q_move (v := .int .i64 (r24)) rfl rfl) ?_
    refine ro_gval (g := (((((((((((((((r4 == (0 : Int)) && (r6 == (0 : Int))) && (r8 == (160 : Int))) && (r10 == (160 : Int))) && (r12 == (0 : Int))) && ((r14.len : Int) == (1 : Int))) && (x32 == (2 : Int))) && (r16 == (0 : Int))) && (r18 == (0 : Int))) && (r20.1 == (1000 : Int))) && (r20.2 == (0 : Int))) && (r22.2 == (0 : Int))) && ((r22.1.len : Int) == (2 : Int))) && (x34 == (798 : Int))) && (x36 == (4103 : Int)))) (d := (some 140)) rfl (.yes 69 138 true (((((((((((((((r4 == (0 : Int)) && (r6 == (0 : Int))) && (r8 == (160 : Int))) && (r10 == (160 : Int))) && (r12 == (0 : Int))) && ((r14.len : Int) == (1 : Int))) && (x32 == (2 : Int))) && (r16 == (0 : Int))) && (r18 == (0 : Int))) && (r20.1 == (1000 : Int))) && (r20.2 == (0 : Int))) && (r22.2 == (0 : Int))) && ((r22.1.len : Int) == (2 : Int))) && (x34 == (798 : Int))) && (x36 == (4103 : Int))) rfl rfl rfl rfl) rfl (fun hg => q_eql (k := .i64) (a := r24) (b := (157 : Int)) rfl (gvb_yes hg) rfl) ?_
    refine rv 141 rfl rfl rfl (q_pickGT (a := (((((((((((((((r4 == (0 : Int)) && (r6 == (0 : Int))) && (r8 == (160 : Int))) && (r10 == (160 : Int))) && (r12 == (0 : Int))) && ((r14.len : Int) == (1 : Int))) && (x32 == (2 : Int))) && (r16 == (0 : Int))) && (r18 == (0 : Int))) && (r20.1 == (1000 : Int))) && (r20.2 == (0 : Int))) && (r22.2 == (0 : Int))) && ((r22.1.len : Int) == (2 : Int))) && (x34 == (798 : Int))) && (x36 == (4103 : Int)))) (b := (r24 == (157 : Int))) rfl rfl rfl rfl) ?_
    refine rv 142 rfl rfl rfl (q_move (v := .bool (((((((((((((((((r4 == (0 : Int)) && (r6 == (0 : Int))) && (r8 == (160 : Int))) && (r10 == (160 : Int))) && (r12 == (0 : Int))) && ((r14.len : Int) == (1 : Int))) && (x32 == (2 : Int))) && (r16 == (0 : Int))) && (r18 == (0 : Int))) && (r20.1 == (1000 : Int))) && (r20.2 == (0 : Int))) && (r22.2 == (0 : Int))) && ((r22.1.len : Int) == (2 : Int))) && (x34 == (798 : Int))) && (x36 == (4103 : Int))) && (r24 == (157 : Int))))) rfl rfl) ?_
    refine ro_gval (g := ((((((((((((((((r4 == (0 : Int)) && (r6 == (0 : Int))) && (r8 == (160 : Int))) && (r10 == (160 : Int))) && (r12 == (0 : Int))) && ((r14.len : Int) == (1 : Int))) && (x32 == (2 : Int))) && (r16 == (0 : Int))) && (r18 == (0 : Int))) && (r20.1 == (1000 : Int))) && (r20.2 == (0 : Int))) && (r22.2 == (0 : Int))) && ((r22.1.len : Int) == (2 : Int))) && (x34 == (798 : Int))) && (x36 == (4103 : Int))) && (r24 == (157 : Int)))) (d := (some 143)) rfl (.yes 73 142 true ((((((((((((((((r4 == (0 : Int)) && (r6 == (0 : Int))) && (r8 == (160 : Int))) && (r10 == (160 : Int))) && (r12 == (0 : Int))) && ((r14.len : Int) == (1 : Int))) && (x32 == (2 : Int))) && (r16 == (0 : Int))) && (r18 == (0 : Int))) && (r20.1 == (1000 : Int))) && (r20.2 == (0 : Int))) && (r22.2 == (0 : Int))) && ((r22.1.len : Int) == (2 : Int))) && (x34 == (798 : Int))) && (x36 == (4103 : Int))) && (r24 == (157 : Int))) rfl rfl rfl rfl) rfl (fun hg => q_move (v := .int .i64 (r26)) rfl rfl) ?_
    refine ro_gval (g := ((((((((((((((((r4 == (0 : Int)) && (r6 == (0 : Int))) && (r8 == (160 : Int))) && (r10 == (160 : Int))) && (r12 == (0 : Int))) && ((r14.len : Int) == (1 : Int))) && (x32 == (2 : Int))) && (r16 == (0 : Int))) && (r18 == (0 : Int))) && (r20.1 == (1000 : Int))) && (r20.2 == (0 : Int))) && (r22.2 == (0 : Int))) && ((r22.1.len : Int) == (2 : Int))) && (x34 == (798 : Int))) && (x36 == (4103 : Int))) && (r24 == (157 : Int)))) (d := (some 144)) rfl (.yes 73 142 true ((((((((((((((((r4 == (0 : Int)) && (r6 == (0 : Int))) && (r8 == (160 : Int))) && (r10 == (160 : Int))) && (r12 == (0 : Int))) && ((r14.len : Int) == (1 : Int))) && (x32 == (2 : Int))) && (r16 == (0 : Int))) && (r18 == (0 : Int))) && (r20.1 == (1000 : Int))) && (r20.2 == (0 : Int))) && (r22.2 == (0 : Int))) && ((r22.1.len : Int) == (2 : Int))) && (x34 == (798 : Int))) && (x36 == (4103 : Int))) && (r24 == (157 : Int))) rfl rfl rfl rfl) rfl (fun hg => q_eql (k := .i64) (a := r26) (b := (0 : Int)) rfl (gvb_yes hg) rfl) ?_
    refine rv 145 rfl rfl rfl (q_pickGT (a := ((((((((((((((((r4 == (0 : Int)) && (r6 == (0 : Int))) && (r8 == (160 : Int))) && (r10 == (160 : Int))) && (r12 == (0 : Int))) && ((r14.len : Int) == (1 : Int))) && (x32 == (2 : Int))) && (r16 == (0 : Int))) && (r18 == (0 : Int))) && (r20.1 == (1000 : Int))) && (r20.2 == (0 : Int))) && (r22.2 == (0 : Int))) && ((r22.1.len : Int) == (2 : Int))) && (x34 == (798 : Int))) && (x36 == (4103 : Int))) && (r24 == (157 : Int)))) (b := (r26 == (0 : Int))) rfl rfl rfl rfl) ?_
    refine rv 146 rfl rfl rfl (q_move (v := .bool ((((((((((((((((((r4 == (0 : Int)) && (r6 == (0 : Int))) && (r8 == (160 : Int))) && (r10 == (160 : Int))) && (r12 == (0 : Int))) && ((r14.len : Int) == (1 : Int))) && (x32 == (2 : Int))) && (r16 == (0 : Int))) && (r18 == (0 : Int))) && (r20.1 == (1000 : Int))) && (r20.2 == (0 : Int))) && (r22.2 == (0 : Int))) && ((r22.1.len : Int) == (2 : Int))) && (x34 == (798 : Int))) && (x36 == (4103 : Int))) && (r24 == (157 : Int))) && (r26 == (0 : Int))))) rfl rfl) ?_
    refine ro_gval (g := (((((((((((((((((r4 == (0 : Int)) && (r6 == (0 : Int))) && (r8 == (160 : Int))) && (r10 == (160 : Int))) && (r12 == (0 : Int))) && ((r14.len : Int) == (1 : Int))) && (x32 == (2 : Int))) && (r16 == (0 : Int))) && (r18 == (0 : Int))) && (r20.1 == (1000 : Int))) && (r20.2 == (0 : Int))) && (r22.2 == (0 : Int))) && ((r22.1.len : Int) == (2 : Int))) && (x34 == (798 : Int))) && (x36 == (4103 : Int))) && (r24 == (157 : Int))) && (r26 == (0 : Int)))) (d := (some 147)) rfl (.yes 77 146 true (((((((((((((((((r4 == (0 : Int)) && (r6 == (0 : Int))) && (r8 == (160 : Int))) && (r10 == (160 : Int))) && (r12 == (0 : Int))) && ((r14.len : Int) == (1 : Int))) && (x32 == (2 : Int))) && (r16 == (0 : Int))) && (r18 == (0 : Int))) && (r20.1 == (1000 : Int))) && (r20.2 == (0 : Int))) && (r22.2 == (0 : Int))) && ((r22.1.len : Int) == (2 : Int))) && (x34 == (798 : Int))) && (x36 == (4103 : Int))) && (r24 == (157 : Int))) && (r26 == (0 : Int))) rfl rfl rfl rfl) rfl (fun hg => q_move (v := .int .i64 (r28.1)) rfl rfl) ?_
    refine ro_gval (g := (((((((((((((((((r4 == (0 : Int)) && (r6 == (0 : Int))) && (r8 == (160 : Int))) && (r10 == (160 : Int))) && (r12 == (0 : Int))) && ((r14.len : Int) == (1 : Int))) && (x32 == (2 : Int))) && (r16 == (0 : Int))) && (r18 == (0 : Int))) && (r20.1 == (1000 : Int))) && (r20.2 == (0 : Int))) && (r22.2 == (0 : Int))) && ((r22.1.len : Int) == (2 : Int))) && (x34 == (798 : Int))) && (x36 == (4103 : Int))) && (r24 == (157 : Int))) && (r26 == (0 : Int)))) (d := (some 148)) rfl (.yes 77 146 true (((((((((((((((((r4 == (0 : Int)) && (r6 == (0 : Int))) && (r8 == (160 : Int))) && (r10 == (160 : Int))) && (r12 == (0 : Int))) && ((r14.len : Int) == (1 : Int))) && (x32 == (2 : Int))) && (r16 == (0 : Int))) && (r18 == (0 : Int))) && (r20.1 == (1000 : Int))) && (r20.2 == (0 : Int))) && (r22.2 == (0 : Int))) && ((r22.1.len : Int) == (2 : Int))) && (x34 == (798 : Int))) && (x36 == (4103 : Int))) && (r24 == (157 : Int))) && (r26 == (0 : Int))) rfl rfl rfl rfl) rfl (fun hg => q_eql (k := .i64) (a := r28.1) (b := (2 : Int)) rfl (gvb_yes hg) rfl) ?_
    refine rv 149 rfl rfl rfl (q_pickGT (a := (((((((((((((((((r4 == (0 : Int)) && (r6 == (0 : Int))) && (r8 == (160 : Int))) && (r10 == (160 : Int))) && (r12 == (0 : Int))) && ((r14.len : Int) == (1 : Int))) && (x32 == (2 : Int))) && (r16 == (0 : Int))) && (r18 == (0 : Int))) && (r20.1 == (1000 : Int))) && (r20.2 == (0 : Int))) && (r22.2 == (0 : Int))) && ((r22.1.len : Int) == (2 : Int))) && (x34 == (798 : Int))) && (x36 == (4103 : Int))) && (r24 == (157 : Int))) && (r26 == (0 : Int)))) (b := (r28.1 == (2 : Int))) rfl rfl rfl rfl) ?_
    refine rv 150 rfl rfl rfl (q_move (v := .bool (((((((((((((((((((r4 == (0 : Int)) && (r6 == (0 : Int))) && (r8 == (160 : Int))) && (r10 == (160 : Int))) && (r12 == (0 : Int))) && ((r14.len : Int) == (1 : Int))) && (x32 == (2 : Int))) && (r16 == (0 : Int))) && (r18 == (0 : Int))) && (r20.1 == (1000 : Int))) && (r20.2 == (0 : Int))) && (r22.2 == (0 : Int))) && ((r22.1.len : Int) == (2 : Int))) && (x34 == (798 : Int))) && (x36 == (4103 : Int))) && (r24 == (157 : Int))) && (r26 == (0 : Int))) && (r28.1 == (2 : Int))))) rfl rfl) ?_
    refine ro_gval (g := ((((((((((((((((((r4 == (0 : Int)) && (r6 == (0 : Int))) && (r8 == (160 : Int))) && (r10 == (160 : Int))) && (r12 == (0 : Int))) && ((r14.len : Int) == (1 : Int))) && (x32 == (2 : Int))) && (r16 == (0 : Int))) && (r18 == (0 : Int))) && (r20.1 == (1000 : Int))) && (r20.2 == (0 : Int))) && (r22.2 == (0 : Int))) && ((r22.1.len : Int) == (2 : Int))) && (x34 == (798 : Int))) && (x36 == (4103 : Int))) && (r24 == (157 : Int))) && (r26 == (0 : Int))) && (r28.1 == (2 : Int)))) (d := (some 151)) rfl (.yes 81 150 true ((((((((((((((((((r4 == (0 : Int)) && (r6 == (0 : Int))) && (r8 == (160 : Int))) && (r10 == (160 : Int))) && (r12 == (0 : Int))) && ((r14.len : Int) == (1 : Int))) && (x32 == (2 : Int))) && (r16 == (0 : Int))) && (r18 == (0 : Int))) && (r20.1 == (1000 : Int))) && (r20.2 == (0 : Int))) && (r22.2 == (0 : Int))) && ((r22.1.len : Int) == (2 : Int))) && (x34 == (798 : Int))) && (x36 == (4103 : Int))) && (r24 == (157 : Int))) && (r26 == (0 : Int))) && (r28.1 == (2 : Int))) rfl rfl rfl rfl) rfl (fun hg => q_move (v := .int .i64 (r28.2)) rfl rfl) ?_
    refine ro_gval (g := ((((((((((((((((((r4 == (0 : Int)) && (r6 == (0 : Int))) && (r8 == (160 : Int))) && (r10 == (160 : Int))) && (r12 == (0 : Int))) && ((r14.len : Int) == (1 : Int))) && (x32 == (2 : Int))) && (r16 == (0 : Int))) && (r18 == (0 : Int))) && (r20.1 == (1000 : Int))) && (r20.2 == (0 : Int))) && (r22.2 == (0 : Int))) && ((r22.1.len : Int) == (2 : Int))) && (x34 == (798 : Int))) && (x36 == (4103 : Int))) && (r24 == (157 : Int))) && (r26 == (0 : Int))) && (r28.1 == (2 : Int)))) (d := (some 152)) rfl (.yes 81 150 true ((((((((((((((((((r4 == (0 : Int)) && (r6 == (0 : Int))) && (r8 == (160 : Int))) && (r10 == (160 : Int))) && (r12 == (0 : Int))) && ((r14.len : Int) == (1 : Int))) && (x32 == (2 : Int))) && (r16 == (0 : Int))) && (r18 == (0 : Int))) && (r20.1 == (1000 : Int))) && (r20.2 == (0 : Int))) && (r22.2 == (0 : Int))) && ((r22.1.len : Int) == (2 : Int))) && (x34 == (798 : Int))) && (x36 == (4103 : Int))) && (r24 == (157 : Int))) && (r26 == (0 : Int))) && (r28.1 == (2 : Int))) rfl rfl rfl rfl) rfl (fun hg => q_eql (k := .i64) (a := r28.2) (b := (9 : Int)) rfl (gvb_yes hg) rfl) ?_
    refine rv 153 rfl rfl rfl (q_pickGT (a := ((((((((((((((((((r4 == (0 : Int)) && (r6 == (0 : Int))) && (r8 == (160 : Int))) && (r10 == (160 : Int))) && (r12 == (0 : Int))) && ((r14.len : Int) == (1 : Int))) && (x32 == (2 : Int))) && (r16 == (0 : Int))) && (r18 == (0 : Int))) && (r20.1 == (1000 : Int))) && (r20.2 == (0 : Int))) && (r22.2 == (0 : Int))) && ((r22.1.len : Int) == (2 : Int))) && (x34 == (798 : Int))) && (x36 == (4103 : Int))) && (r24 == (157 : Int))) && (r26 == (0 : Int))) && (r28.1 == (2 : Int)))) (b := (r28.2 == (9 : Int))) rfl rfl rfl rfl) ?_
    refine rv 154 rfl rfl rfl (q_move (v := .bool ((((((((((((((((((((r4 == (0 : Int)) && (r6 == (0 : Int))) && (r8 == (160 : Int))) && (r10 == (160 : Int))) && (r12 == (0 : Int))) && ((r14.len : Int) == (1 : Int))) && (x32 == (2 : Int))) && (r16 == (0 : Int))) && (r18 == (0 : Int))) && (r20.1 == (1000 : Int))) && (r20.2 == (0 : Int))) && (r22.2 == (0 : Int))) && ((r22.1.len : Int) == (2 : Int))) && (x34 == (798 : Int))) && (x36 == (4103 : Int))) && (r24 == (157 : Int))) && (r26 == (0 : Int))) && (r28.1 == (2 : Int))) && (r28.2 == (9 : Int))))) rfl rfl) ?_
    refine ro_gval (g := (((((((((((((((((((r4 == (0 : Int)) && (r6 == (0 : Int))) && (r8 == (160 : Int))) && (r10 == (160 : Int))) && (r12 == (0 : Int))) && ((r14.len : Int) == (1 : Int))) && (x32 == (2 : Int))) && (r16 == (0 : Int))) && (r18 == (0 : Int))) && (r20.1 == (1000 : Int))) && (r20.2 == (0 : Int))) && (r22.2 == (0 : Int))) && ((r22.1.len : Int) == (2 : Int))) && (x34 == (798 : Int))) && (x36 == (4103 : Int))) && (r24 == (157 : Int))) && (r26 == (0 : Int))) && (r28.1 == (2 : Int))) && (r28.2 == (9 : Int)))) (d := (some 155)) rfl (.yes 85 154 true (((((((((((((((((((r4 == (0 : Int)) && (r6 == (0 : Int))) && (r8 == (160 : Int))) && (r10 == (160 : Int))) && (r12 == (0 : Int))) && ((r14.len : Int) == (1 : Int))) && (x32 == (2 : Int))) && (r16 == (0 : Int))) && (r18 == (0 : Int))) && (r20.1 == (1000 : Int))) && (r20.2 == (0 : Int))) && (r22.2 == (0 : Int))) && ((r22.1.len : Int) == (2 : Int))) && (x34 == (798 : Int))) && (x36 == (4103 : Int))) && (r24 == (157 : Int))) && (r26 == (0 : Int))) && (r28.1 == (2 : Int))) && (r28.2 == (9 : Int))) rfl rfl rfl rfl) rfl (fun hg => q_move (v := .int .i64 (r30)) rfl rfl) ?_
    refine ro_gval (g := (((((((((((((((((((r4 == (0 : Int)) && (r6 == (0 : Int))) && (r8 == (160 : Int))) && (r10 == (160 : Int))) && (r12 == (0 : Int))) && ((r14.len : Int) == (1 : Int))) && (x32 == (2 : Int))) && (r16 == (0 : Int))) && (r18 == (0 : Int))) && (r20.1 == (1000 : Int))) && (r20.2 == (0 : Int))) && (r22.2 == (0 : Int))) && ((r22.1.len : Int) == (2 : Int))) && (x34 == (798 : Int))) && (x36 == (4103 : Int))) && (r24 == (157 : Int))) && (r26 == (0 : Int))) && (r28.1 == (2 : Int))) && (r28.2 == (9 : Int)))) (d := (some 156)) rfl (.yes 85 154 true (((((((((((((((((((r4 == (0 : Int)) && (r6 == (0 : Int))) && (r8 == (160 : Int))) && (r10 == (160 : Int))) && (r12 == (0 : Int))) && ((r14.len : Int) == (1 : Int))) && (x32 == (2 : Int))) && (r16 == (0 : Int))) && (r18 == (0 : Int))) && (r20.1 == (1000 : Int))) && (r20.2 == (0 : Int))) && (r22.2 == (0 : Int))) && ((r22.1.len : Int) == (2 : Int))) && (x34 == (798 : Int))) && (x36 == (4103 : Int))) && (r24 == (157 : Int))) && (r26 == (0 : Int))) && (r28.1 == (2 : Int))) && (r28.2 == (9 : Int))) rfl rfl rfl rfl) rfl (fun hg => q_eql (k := .i64) (a := r30) (b := (0 : Int)) rfl (gvb_yes hg) rfl) ?_
    refine rv 157 rfl rfl rfl (q_pickGT (a := (((((((((((((((((((r4 == (0 : Int)) && (r6 == (0 : Int))) && (r8 == (160 : Int))) && (r10 == (160 : Int))) && (r12 == (0 : Int))) && ((r14.len : Int) == (1 : Int))) && (x32 == (2 : Int))) && (r16 == (0 : Int))) && (r18 == (0 : Int))) && (r20.1 == (1000 : Int))) && (r20.2 == (0 : Int))) && (r22.2 == (0 : Int))) && ((r22.1.len : Int) == (2 : Int))) && (x34 == (798 : Int))) && (x36 == (4103 : Int))) && (r24 == (157 : Int))) && (r26 == (0 : Int))) && (r28.1 == (2 : Int))) && (r28.2 == (9 : Int)))) (b := (r30 == (0 : Int))) rfl rfl rfl rfl) ?_
    refine rv 158 rfl rfl rfl (q_move (v := .bool (((((((((((((((((((((r4 == (0 : Int)) && (r6 == (0 : Int))) && (r8 == (160 : Int))) && (r10 == (160 : Int))) && (r12 == (0 : Int))) && ((r14.len : Int) == (1 : Int))) && (x32 == (2 : Int))) && (r16 == (0 : Int))) && (r18 == (0 : Int))) && (r20.1 == (1000 : Int))) && (r20.2 == (0 : Int))) && (r22.2 == (0 : Int))) && ((r22.1.len : Int) == (2 : Int))) && (x34 == (798 : Int))) && (x36 == (4103 : Int))) && (r24 == (157 : Int))) && (r26 == (0 : Int))) && (r28.1 == (2 : Int))) && (r28.2 == (9 : Int))) && (r30 == (0 : Int))))) rfl rfl) ?_
    refine ro_join (σ := Bool) (J := fun (s : Bool) w => F8_j1 r2 s w R) (fr := fun g (s : Bool) => upd (upd (g) 1 (.pointer (r2.1))) 162 (.bool (s))) [90, 91, 92, 93] [94, 95, 96, 97, 98, 99, 100, 101, 102, 103, 104, 105, 106, 107, 108, 109, 110] ?_ ?_
    · rintro t_37 g w38 h
      unfold F8_j1 at h
      refine rv 163 rfl rfl rfl (q_move (v := .bool (t_37)) rfl rfl) ?_
      refine ro_join (σ := Bool) (J := fun (s : Bool) w => F8_j2 r2 s w R) (fr := fun g (s : Bool) => upd (upd (g) 1 (.pointer (r2.1))) 170 (.bool (s))) [95, 96, 97, 98, 99, 100, 101] [102, 103, 104, 105, 106, 107, 108, 109, 110] ?_ ?_
      · rintro t_39 g w40 h
        unfold F8_j2 at h
        refine rv 171 rfl rfl rfl (q_move (v := .bool (t_39)) rfl rfl) ?_
        refine ro_join (σ := Bool) (J := fun (s : Bool) w => F8_j3 s w R) (fr := fun g (s : Bool) => upd (g) 178 (.bool (s))) [103, 104, 105, 106, 107, 108, 109] [110] ?_ ?_
        · rintro t_41 g w42 h
          unfold F8_j3 at h
          refine rv 0 rfl rfl rfl (q_assign (v := .bool (t_41)) rfl rfl) ?_
          refine ro_nil ?_
          refine wp_ret ?_
          exact ret_ok rfl (.cons (.tmp (v := .bool (t_41)) rfl) .nil) ⟨t_41, rfl, h⟩
        · refine ro_if (b := t_39) h (fun hb43 h => ?_) (fun hb43 h => ?_)
          · refine ro_val (d := (some 172)) rfl (.by_ 102 true 171 t_39 rfl rfl rfl hb43) rfl (q_move (v := .pointer (r2.1)) rfl rfl) ?_
            obtain ⟨a44, ha44, h⟩ := h
            refine ro_val (d := (some 173)) rfl (.by_ 102 true 171 t_39 rfl rfl rfl hb43) rfl (q_nilCheck (a := a44) rfl (congrArg Value.pointer ha44)) ?_
            refine ro_val (d := (some 174)) rfl (.by_ 102 true 171 t_39 rfl rfl rfl hb43) rfl (q_fieldAddr (a := a44) (off := 0) rfl Tryz.underlying35 rfl rfl ok30 (by decide) rfl) ?_
            obtain ⟨x45, hx45, h⟩ := h
            refine ro_val (d := (some 175)) rfl (.by_ 102 true 171 t_39 rfl rfl rfl hb43) rfl (q_load (T := T29) (u := x45) (a := (a44.add 0)) rfl ok30 rfl hx45) ?_
            refine ro_wp rfl (.by_ 102 true 171 t_39 rfl rfl rfl hb43) (wp_cl (d := (some 176)) rfl (q_call (k := 13) (l := [T29.enc (x45)]) rfl ent13 rfl) h ?_)
            intro r47 w46 h
            refine ro_val (d := (some 177)) rfl (.by_ 102 true 171 t_39 rfl rfl rfl hb43) rfl (q_eql (a := r47) (b := (9 : Int)) rfl rfl rfl) ?_
            refine rv 178 rfl rfl rfl (q_pickT (v := .bool ((r47 == (9 : Int)))) (b := t_39) rfl rfl hb43 rfl) ?_
            refine ro_nil ?_
            exact ⟨((r47 == (9 : Int))), _, arr (upd_step rfl rfl), h⟩
          · refine ro_bar (d := (some 172)) rfl (.by_ 102 true 171 t_39 rfl rfl rfl hb43) rfl ?_
            refine ro_bar (d := (some 173)) rfl (.by_ 102 true 171 t_39 rfl rfl rfl hb43) rfl ?_
            refine ro_bar (d := (some 174)) rfl (.by_ 102 true 171 t_39 rfl rfl rfl hb43) rfl ?_
            refine ro_bar (d := (some 175)) rfl (.by_ 102 true 171 t_39 rfl rfl rfl hb43) rfl ?_
            refine ro_bar (d := (some 176)) rfl (.by_ 102 true 171 t_39 rfl rfl rfl hb43) rfl ?_
            refine ro_bar (d := (some 177)) rfl (.by_ 102 true 171 t_39 rfl rfl rfl hb43) rfl ?_
            refine rv 178 rfl rfl rfl (q_pickF (v := .bool (false)) (b := t_39) rfl rfl hb43 rfl) ?_
            refine ro_nil ?_
            exact ⟨(false), _, arr (upd_step rfl rfl), h⟩
      · refine ro_if (b := t_37) h (fun hb48 h => ?_) (fun hb48 h => ?_)
        · refine ro_val (d := (some 164)) rfl (.by_ 94 true 163 t_37 rfl rfl rfl hb48) rfl (q_move (v := .pointer (r2.1)) rfl rfl) ?_
          obtain ⟨a49, ha49, h⟩ := h
          refine ro_val (d := (some 165)) rfl (.by_ 94 true 163 t_37 rfl rfl rfl hb48) rfl (q_nilCheck (a := a49) rfl (congrArg Value.pointer ha49)) ?_
          refine ro_val (d := (some 166)) rfl (.by_ 94 true 163 t_37 rfl rfl rfl hb48) rfl (q_fieldAddr (a := a49) (off := 0) rfl Tryz.underlying35 rfl rfl ok30 (by decide) rfl) ?_
          obtain ⟨x50, hx50, h⟩ := h
          refine ro_val (d := (some 167)) rfl (.by_ 94 true 163 t_37 rfl rfl rfl hb48) rfl (q_load (T := T29) (u := x50) (a := (a49.add 0)) rfl ok30 rfl hx50) ?_
          refine ro_wp rfl (.by_ 94 true 163 t_37 rfl rfl rfl hb48) (wp_cl (d := (some 168)) rfl (q_call (k := 9) (l := [T29.enc (x50)]) rfl ent9 rfl) h ?_)
          intro r52 w51 h
          refine ro_val (d := (some 169)) rfl (.by_ 94 true 163 t_37 rfl rfl rfl hb48) rfl (q_eql (a := r52) (b := (9 : Int)) rfl rfl rfl) ?_
          refine rv 170 rfl rfl rfl (q_pickT (v := .bool ((r52 == (9 : Int)))) (b := t_37) rfl rfl hb48 rfl) ?_
          refine ro_nil ?_
          exact ⟨((r52 == (9 : Int))), _, arr (upd_step (upd_step rfl rfl) rfl), h⟩
        · refine ro_bar (d := (some 164)) rfl (.by_ 94 true 163 t_37 rfl rfl rfl hb48) rfl ?_
          refine ro_bar (d := (some 165)) rfl (.by_ 94 true 163 t_37 rfl rfl rfl hb48) rfl ?_
          refine ro_bar (d := (some 166)) rfl (.by_ 94 true 163 t_37 rfl rfl rfl hb48) rfl ?_
          refine ro_bar (d := (some 167)) rfl (.by_ 94 true 163 t_37 rfl rfl rfl hb48) rfl ?_
          refine ro_bar (d := (some 168)) rfl (.by_ 94 true 163 t_37 rfl rfl rfl hb48) rfl ?_
          refine ro_bar (d := (some 169)) rfl (.by_ 94 true 163 t_37 rfl rfl rfl hb48) rfl ?_
          refine rv 170 rfl rfl rfl (q_pickF (v := .bool (false)) (b := t_37) rfl rfl hb48 rfl) ?_
          refine ro_nil ?_
          exact ⟨(false), _, arr (upd_step (upd_step rfl rfl) rfl), h⟩
    · refine ro_if (b := ((((((((((((((((((((r4 == (0 : Int)) && (r6 == (0 : Int))) && (r8 == (160 : Int))) && (r10 == (160 : Int))) && (r12 == (0 : Int))) && ((r14.len : Int) == (1 : Int))) && (x32 == (2 : Int))) && (r16 == (0 : Int))) && (r18 == (0 : Int))) && (r20.1 == (1000 : Int))) && (r20.2 == (0 : Int))) && (r22.2 == (0 : Int))) && ((r22.1.len : Int) == (2 : Int))) && (x34 == (798 : Int))) && (x36 == (4103 : Int))) && (r24 == (157 : Int))) && (r26 == (0 : Int))) && (r28.1 == (2 : Int))) && (r28.2 == (9 : Int))) && (r30 == (0 : Int)))) h (fun hb53 h => ?_) (fun hb53 h => ?_)
      · refine ro_val (d := (some 159)) rfl (.by_ 89 true 158 ((((((((((((((((((((r4 == (0 : Int)) && (r6 == (0 : Int))) && (r8 == (160 : Int))) && (r10 == (160 : Int))) && (r12 == (0 : Int))) && ((r14.len : Int) == (1 : Int))) && (x32 == (2 : Int))) && (r16 == (0 : Int))) && (r18 == (0 : Int))) && (r20.1 == (1000 : Int))) && (r20.2 == (0 : Int))) && (r22.2 == (0 : Int))) && ((r22.1.len : Int) == (2 : Int))) && (x34 == (798 : Int))) && (x36 == (4103 : Int))) && (r24 == (157 : Int))) && (r26 == (0 : Int))) && (r28.1 == (2 : Int))) && (r28.2 == (9 : Int))) && (r30 == (0 : Int))) rfl rfl rfl hb53) rfl (q_move (v := .pointer (r2.1)) rfl rfl) ?_
        refine ro_wp rfl (.by_ 89 true 158 ((((((((((((((((((((r4 == (0 : Int)) && (r6 == (0 : Int))) && (r8 == (160 : Int))) && (r10 == (160 : Int))) && (r12 == (0 : Int))) && ((r14.len : Int) == (1 : Int))) && (x32 == (2 : Int))) && (r16 == (0 : Int))) && (r18 == (0 : Int))) && (r20.1 == (1000 : Int))) && (r20.2 == (0 : Int))) && (r22.2 == (0 : Int))) && ((r22.1.len : Int) == (2 : Int))) && (x34 == (798 : Int))) && (x36 == (4103 : Int))) && (r24 == (157 : Int))) && (r26 == (0 : Int))) && (r28.1 == (2 : Int))) && (r28.2 == (9 : Int))) && (r30 == (0 : Int))) rfl rfl rfl hb53) (wp_cl (d := (some 160)) rfl (q_call (k := 18) (l := [.pointer (r2.1)]) rfl ent18 rfl) h ?_)
        intro r55 w54 h
        refine ro_val (d := (some 161)) rfl (.by_ 89 true 158 ((((((((((((((((((((r4 == (0 : Int)) && (r6 == (0 : Int))) && (r8 == (160 : Int))) && (r10 == (160 : Int))) && (r12 == (0 : Int))) && ((r14.len : Int) == (1 : Int))) && (x32 == (2 : Int))) && (r16 == (0 : Int))) && (r18 == (0 : Int))) && (r20.1 == (1000 : Int))) && (r20.2 == (0 : Int))) && (r22.2 == (0 : Int))) && ((r22.1.len : Int) == (2 : Int))) && (x34 == (798 : Int))) && (x36 == (4103 : Int))) && (r24 == (157 : Int))) && (r26 == (0 : Int))) && (r28.1 == (2 : Int))) && (r28.2 == (9 : Int))) && (r30 == (0 : Int))) rfl rfl rfl hb53) rfl (q_eql (a := r55) (b := (9 : Int)) rfl rfl rfl) ?_
        refine rv 162 rfl rfl rfl (q_pickT (v := .bool ((r55 == (9 : Int)))) (b := ((((((((((((((((((((r4 == (0 : Int)) && (r6 == (0 : Int))) && (r8 == (160 : Int))) && (r10 == (160 : Int))) && (r12 == (0 : Int))) && ((r14.len : Int) == (1 : Int))) && (x32 == (2 : Int))) && (r16 == (0 : Int))) && (r18 == (0 : Int))) && (r20.1 == (1000 : Int))) && (r20.2 == (0 : Int))) && (r22.2 == (0 : Int))) && ((r22.1.len : Int) == (2 : Int))) && (x34 == (798 : Int))) && (x36 == (4103 : Int))) && (r24 == (157 : Int))) && (r26 == (0 : Int))) && (r28.1 == (2 : Int))) && (r28.2 == (9 : Int))) && (r30 == (0 : Int)))) rfl rfl hb53 rfl) ?_
        refine ro_nil ?_
        exact ⟨((r55 == (9 : Int))), _, arr (upd_step (upd_step rfl rfl) rfl), h⟩
      · refine ro_bar (d := (some 159)) rfl (.by_ 89 true 158 ((((((((((((((((((((r4 == (0 : Int)) && (r6 == (0 : Int))) && (r8 == (160 : Int))) && (r10 == (160 : Int))) && (r12 == (0 : Int))) && ((r14.len : Int) == (1 : Int))) && (x32 == (2 : Int))) && (r16 == (0 : Int))) && (r18 == (0 : Int))) && (r20.1 == (1000 : Int))) && (r20.2 == (0 : Int))) && (r22.2 == (0 : Int))) && ((r22.1.len : Int) == (2 : Int))) && (x34 == (798 : Int))) && (x36 == (4103 : Int))) && (r24 == (157 : Int))) && (r26 == (0 : Int))) && (r28.1 == (2 : Int))) && (r28.2 == (9 : Int))) && (r30 == (0 : Int))) rfl rfl rfl hb53) rfl ?_
        refine ro_bar (d := (some 160)) rfl (.by_ 89 true 158 ((((((((((((((((((((r4 == (0 : Int)) && (r6 == (0 : Int))) && (r8 == (160 : Int))) && (r10 == (160 : Int))) && (r12 == (0 : Int))) && ((r14.len : Int) == (1 : Int))) && (x32 == (2 : Int))) && (r16 == (0 : Int))) && (r18 == (0 : Int))) && (r20.1 == (1000 : Int))) && (r20.2 == (0 : Int))) && (r22.2 == (0 : Int))) && ((r22.1.len : Int) == (2 : Int))) && (x34 == (798 : Int))) && (x36 == (4103 : Int))) && (r24 == (157 : Int))) && (r26 == (0 : Int))) && (r28.1 == (2 : Int))) && (r28.2 == (9 : Int))) && (r30 == (0 : Int))) rfl rfl rfl hb53) rfl ?_
        refine ro_bar (d := (some 161)) rfl (.by_ 89 true 158 ((((((((((((((((((((r4 == (0 : Int)) && (r6 == (0 : Int))) && (r8 == (160 : Int))) && (r10 == (160 : Int))) && (r12 == (0 : Int))) && ((r14.len : Int) == (1 : Int))) && (x32 == (2 : Int))) && (r16 == (0 : Int))) && (r18 == (0 : Int))) && (r20.1 == (1000 : Int))) && (r20.2 == (0 : Int))) && (r22.2 == (0 : Int))) && ((r22.1.len : Int) == (2 : Int))) && (x34 == (798 : Int))) && (x36 == (4103 : Int))) && (r24 == (157 : Int))) && (r26 == (0 : Int))) && (r28.1 == (2 : Int))) && (r28.2 == (9 : Int))) && (r30 == (0 : Int))) rfl rfl rfl hb53) rfl ?_
        refine rv 162 rfl rfl rfl (q_pickF (v := .bool (false)) (b := ((((((((((((((((((((r4 == (0 : Int)) && (r6 == (0 : Int))) && (r8 == (160 : Int))) && (r10 == (160 : Int))) && (r12 == (0 : Int))) && ((r14.len : Int) == (1 : Int))) && (x32 == (2 : Int))) && (r16 == (0 : Int))) && (r18 == (0 : Int))) && (r20.1 == (1000 : Int))) && (r20.2 == (0 : Int))) && (r22.2 == (0 : Int))) && ((r22.1.len : Int) == (2 : Int))) && (x34 == (798 : Int))) && (x36 == (4103 : Int))) && (r24 == (157 : Int))) && (r26 == (0 : Int))) && (r28.1 == (2 : Int))) && (r28.2 == (9 : Int))) && (r30 == (0 : Int)))) rfl rfl hb53 rfl) ?_
        refine ro_nil ?_
        exact ⟨(false), _, arr (upd_step (upd_step rfl rfl) rfl), h⟩

end Go.Proofs.YtpdaapffkdejoaaGreat.Cf
