/- Characteristic formulae of Go functions, and that they are. Printed by gen.py (own tool). -/
import Derived.Test.YtdgdkbfigndndaaTy
namespace Go.Proofs.Ytdgdkbfigndndaa.Cf
open Go
set_option maxRecDepth 100000
set_option maxHeartbeats 1000000
set_option linter.unusedVariables false
set_option linter.unusedSimpArgs false

-- moiety/moietylaw12.awake
def F10_j3 (t_45 : Bool) (w46 : World) (R : Bool → World → Prop) : Prop :=
  R t_45 w46
def F10_j2 (r2 : (Option Addr)) (t_43 : Bool) (w44 : World) (R : Bool → World → Prop) : Prop :=
  if t_43 = true then (
    cl Try.prog 16 [.pointer (r2)] (tInt .i64) w44 fun r49 w48 =>
    F10_j3 (r49 == (9 : Int)) w48 R
  ) else (
    F10_j3 false w44 R
  )
def F10_j1 (r2 : (Option Addr)) (t_41 : Bool) (w42 : World) (R : Bool → World → Prop) : Prop :=
  if t_41 = true then (
    cl Try.prog 15 [.pointer (r2)] (tInt .i64) w42 fun r52 w51 =>
    F10_j2 r2 (r52 == (9 : Int)) w51 R
  ) else (
    F10_j2 r2 false w42 R
  )
def F10 (w : World) (R : Bool → World → Prop) : Prop :=
  cl Try.prog 9 [] tPtr w fun r2 w1 =>
  if r2.isNone = true then (
    R false w1
  ) else (
    nwS 58 T57 [(⟨(1 : Int), (100 : Int)⟩ : S57), (⟨(2 : Int), (50 : Int)⟩ : S57)] w1 fun a3 w4 =>
    cl Try.prog 23 [.pointer (r2), .int .i64 ((5 : Int)), tSlc.enc ((⟨some a3, 2, 2⟩ : Slc))] (tInt .i64) w4 fun r6 w5 =>
    nwS 58 T57 [(⟨(2 : Int), (80 : Int)⟩ : S57)] w5 fun a7 w8 =>
    cl Try.prog 23 [.pointer (r2), .int .i64 ((9 : Int)), tSlc.enc ((⟨some a7, 1, 1⟩ : Slc))] (tInt .i64) w8 fun r10 w9 =>
    nwS 58 T57 [(⟨(1 : Int), (70 : Int)⟩ : S57)] w9 fun a11 w12 =>
    cl Try.prog 23 [.pointer (r2), .int .i64 ((7 : Int)), tSlc.enc ((⟨some a11, 1, 1⟩ : Slc))] (tInt .i64) w12 fun r14 w13 =>
    cl Try.prog 18 [.pointer (r2), .int .i64 ((8 : Int))] (tTup2 tSlc (tInt .i64)) w13 fun r16 w15 =>
    cl Try.prog 24 [.pointer (r2), .int .i64 ((9 : Int))] (tInt .i64) w15 fun r18 w17 =>
    cl Try.prog 18 [.pointer (r2), .int .i64 ((8 : Int))] (tTup2 tSlc (tInt .i64)) w17 fun r20 w19 =>
    cl Try.prog 25 [.pointer (r2), .int .i64 ((2 : Int)), .int .i64 ((9 : Int))] (tTup2 T35 (tInt .i64)) w19 fun r22 w21 =>
    nw 36 T35 Z35 w21 fun a23 w24 =>
    st T35 a23 r22.1 w24 fun w25 =>
    cl Try.prog 13 [.pointer (r2), .int .i64 ((1 : Int))] (tTup2 T35 tBool) w25 fun r27 w26 =>
    nw 36 T35 Z35 w26 fun a28 w29 =>
    st T35 a28 r27.1 w29 fun w30 =>
    cl Try.prog 26 [.pointer (r2), .int .i64 ((9 : Int))] (tInt .i64) w30 fun r32 w31 =>
    cl Try.prog 18 [.pointer (r2), .int .i64 ((8 : Int))] (tTup2 tSlc (tInt .i64)) w31 fun r34 w33 =>
    ex (fun x => (((((((r6 == (0 : Int)) && (r10 == (0 : Int))) && (r14 == (0 : Int))) && (r16.2 == (128 : Int))) && (r18 == (0 : Int))) && (r20.2 == (0 : Int))) && ((r20.1.len : Int) == (2 : Int))) = true → (IxA r20.1 2 (0 : Int)) x) fun a35 =>
    ex (fun x => (((((((r6 == (0 : Int)) && (r10 == (0 : Int))) && (r14 == (0 : Int))) && (r16.2 == (128 : Int))) && (r18 == (0 : Int))) && (r20.2 == (0 : Int))) && ((r20.1.len : Int) == (2 : Int))) = true → (RdAt (tInt .i64) (a35.add 1) w33) x) fun x36 =>
    ex (fun x => ((((((((r6 == (0 : Int)) && (r10 == (0 : Int))) && (r14 == (0 : Int))) && (r16.2 == (128 : Int))) && (r18 == (0 : Int))) && (r20.2 == (0 : Int))) && ((r20.1.len : Int) == (2 : Int))) && (x36 == (70 : Int))) = true → (IxA r20.1 2 (1 : Int)) x) fun a37 =>
    ex (fun x => ((((((((r6 == (0 : Int)) && (r10 == (0 : Int))) && (r14 == (0 : Int))) && (r16.2 == (128 : Int))) && (r18 == (0 : Int))) && (r20.2 == (0 : Int))) && ((r20.1.len : Int) == (2 : Int))) && (x36 == (70 : Int))) = true → (RdAt (tInt .i64) (a37.add 1) w33) x) fun x38 =>
    ex (fun x => ((((((((((r6 == (0 : Int)) && (r10 == (0 : Int))) && (r14 == (0 : Int))) && (r16.2 == (128 : Int))) && (r18 == (0 : Int))) && (r20.2 == (0 : Int))) && ((r20.1.len : Int) == (2 : Int))) && (x36 == (70 : Int))) && (x38 == (50 : Int))) && (r22.2 == (0 : Int))) = true → (RdAt (tInt .i64) (a23.add 1) w33) x) fun x39 =>
    ex (fun x => ((((((((((((r6 == (0 : Int)) && (r10 == (0 : Int))) && (r14 == (0 : Int))) && (r16.2 == (128 : Int))) && (r18 == (0 : Int))) && (r20.2 == (0 : Int))) && ((r20.1.len : Int) == (2 : Int))) && (x36 == (70 : Int))) && (x38 == (50 : Int))) && (r22.2 == (0 : Int))) && (x39 == (80 : Int))) && r27.2) = true → (RdAt (tInt .i64) (a28.add 0) w33) x) fun x40 =>
    if (((((((((((((((r6 == (0 : Int)) && (r10 == (0 : Int))) && (r14 == (0 : Int))) && (r16.2 == (128 : Int))) && (r18 == (0 : Int))) && (r20.2 == (0 : Int))) && ((r20.1.len : Int) == (2 : Int))) && (x36 == (70 : Int))) && (x38 == (50 : Int))) && (r22.2 == (0 : Int))) && (x39 == (80 : Int))) && r27.2) && (x40 == (7 : Int))) && (r32 == (0 : Int))) && (r34.2 == (126 : Int))) = true then (
      cl Try.prog 17 [.pointer (r2)] (tInt .i64) w33 fun r55 w54 =>
      F10_j1 r2 (r55 == (2 : Int)) w54 R
    ) else (
      F10_j1 r2 false w33 R
    )
  )
theorem F10_ok {w : World} {R : Bool → World → Prop} (h : F10 w R) : cl Try.prog 10 [] tBool w R := by
  unfold F10 at h
  refine calls_start 143 Try.func10 rfl rfl (Nat.le_of_ble_eq_true rfl) ?_
  refine wp_seq ?_
  refine wp_text [0] rfl ?_
  refine ro_val (d := (some 0)) rfl (.free rfl) rfl (q_assign (v := .bool (false)) rfl rfl) ?_
  refine ro_nil ?_
  refine wp_seq ?_
  refine wp_text [0, 1] rfl ?_
  refine ro_wp rfl (.free rfl) (wp_cl (d := (some 17)) rfl (q_call (k := 9) (l := []) rfl ent9 rfl) h ?_)
  intro r2 w1 h
  refine ro_val (d := (some 1)) rfl (.free rfl) rfl (q_assign (v := .pointer (r2)) rfl rfl) ?_
  refine ro_nil ?_
  refine wp_seq ?_
  refine wp_seq ?_
  refine wp_text [0, 1] rfl ?_
  refine ro_val (d := (some 18)) rfl (.free rfl) rfl (q_move (v := .pointer (r2)) rfl rfl) ?_
  refine ro_val (d := (some 19)) rfl (.free rfl) rfl (q_eqP0 (a := r2) rfl Try.underlying23 rfl rfl) ?_
  refine ro_nil ?_
  refine wp_if (b := r2.isNone) rfl h (fun hb56 h => ?_) (fun hb56 h => ?_)
  · refine wp_seq ?_
    refine wp_text [0] rfl ?_
    refine ro_val (d := (some 0)) rfl (.free rfl) rfl (q_assign (v := .bool (false)) rfl rfl) ?_
    refine ro_nil ?_
    refine wp_ret ?_
    exact ret_ok rfl (.cons (.tmp (v := .bool (false)) rfl) .nil) ⟨false, rfl, h⟩
  · refine wp_skip ?_
    refine wp_seq ?_
    refine wp_text [0, 1, 2, 3, 4, 5] rfl ?_
    refine ro_val (d := (some 20)) rfl (.free rfl) rfl (q_move (v := .pointer (r2)) rfl rfl) ?_
    refine ro_val (d := (some 21)) rfl (.free rfl) rfl (q_build58_0_1 (v0 := (1 : Int)) (v1 := (100 : Int)) rfl rfl rfl) ?_
    refine ro_val (d := (some 22)) rfl (.free rfl) rfl (q_build58_0_1 (v0 := (2 : Int)) (v1 := (50 : Int)) rfl rfl rfl) ?_
    obtain ⟨a3, w4, ha3, hw4, h⟩ := nwS_open h
    refine ro_val (d := (some 23)) rfl (.free rfl) rfl (q_rowOf (T := T57) (xs := [(⟨(1 : Int), (100 : Int)⟩ : S57), (⟨(2 : Int), (50 : Int)⟩ : S57)]) rfl Try.underlying31 ok58 inf58 rfl (by decide) (by decide) rfl ha3 hw4) ?_
    refine ro_wp rfl (.free rfl) (wp_cl (d := (some 24)) rfl (q_call (k := 23) (l := [.pointer (r2), .int .i64 ((5 : Int)), tSlc.enc ((⟨some a3, 2, 2⟩ : Slc))]) rfl ent23 rfl) h ?_)
    intro r6 w5 h
    refine ro_val (d := (some 2)) rfl (.free rfl) rfl (q_assign (v := .int .i64 (r6)) rfl rfl) ?_
    refine ro_nil ?_
    refine wp_seq ?_
    refine wp_text [0, 1, 2, 3, 4] rfl ?_
    refine ro_val (d := (some 25)) rfl (.free rfl) rfl (q_move (v := .pointer (r2)) rfl rfl) ?_
    refine ro_val (d := (some 26)) rfl (.free rfl) rfl (q_build58_0_1 (v0 := (2 : Int)) (v1 := (80 : Int)) rfl rfl rfl) ?_
    obtain ⟨a7, w8, ha7, hw8, h⟩ := nwS_open h
    refine ro_val (d := (some 27)) rfl (.free rfl) rfl (q_rowOf (T := T57) (xs := [(⟨(2 : Int), (80 : Int)⟩ : S57)]) rfl Try.underlying31 ok58 inf58 rfl (by decide) (by decide) rfl ha7 hw8) ?_
    refine ro_wp rfl (.free rfl) (wp_cl (d := (some 28)) rfl (q_call (k := 23) (l := [.pointer (r2), .int .i64 ((9 : Int)), tSlc.enc ((⟨some a7, 1, 1⟩ : Slc))]) rfl ent23 rfl) h ?_)
    intro r10 w9 h
    refine ro_val (d := (some 3)) rfl (.free rfl) rfl (q_assign (v := .int .i64 (r10)) rfl rfl) ?_
    refine ro_nil ?_
    refine wp_seq ?_
    refine wp_text [0, 1, 2, 3, 4] rfl ?_
    refine ro_val (d := (some 29)) rfl (.free rfl) rfl (q_move (v := .pointer (r2)) rfl rfl) ?_
    refine ro_val (d := (some 30)) rfl (.free rfl) rfl (q_build58_0_1 (v0 := (1 : Int)) (v1 := (70 : Int)) rfl rfl rfl) ?_
    obtain ⟨a11, w12, ha11, hw12, h⟩ := nwS_open h
    refine ro_val (d := (some 31)) rfl (.free rfl) rfl (q_rowOf (T := T57) (xs := [(⟨(1 : Int), (70 : Int)⟩ : S57)]) rfl Try.underlying31 ok58 inf58 rfl (by decide) (by decide) rfl ha11 hw12) ?_
    refine ro_wp rfl (.free rfl) (wp_cl (d := (some 32)) rfl (q_call (k := 23) (l := [.pointer (r2), .int .i64 ((7 : Int)), tSlc.enc ((⟨some a11, 1, 1⟩ : Slc))]) rfl ent23 rfl) h ?_)
    intro r14 w13 h
    refine ro_val (d := (some 4)) rfl (.free rfl) rfl (q_assign (v := .int .i64 (r14)) rfl rfl) ?_
    refine ro_nil ?_
    refine wp_seq ?_
    refine wp_text [0, 1, 2, 3, 4, 5, 6] rfl ?_
    refine ro_val (d := (some 34)) rfl (.free rfl) rfl (q_move (v := .pointer (r2)) rfl rfl) ?_
    refine ro_wp rfl (.free rfl) (wp_cl (d := (some 35)) rfl (q_call (k := 18) (l := [.pointer (r2), .int .i64 ((8 : Int))]) rfl ent18 rfl) h ?_)
    intro r16 w15 h
    refine ro_val (d := (some 33)) rfl (.free rfl) rfl (q_move (v := (tTup2 tSlc (tInt .i64)).enc (r16)) rfl rfl) ?_
    refine ro_val (d := (some 36)) rfl (.free rfl) rfl (q_extract (vs := #[tSlc.enc (r16.1), .int .i64 (r16.2)]) (v := tSlc.enc (r16.1)) rfl rfl rfl) ?_
    refine ro_val (d := (some 37)) rfl (.free rfl) rfl (q_extract (vs := #[tSlc.enc (r16.1), .int .i64 (r16.2)]) (v := .int .i64 (r16.2)) rfl rfl rfl) ?_
    refine ro_val (d := (some 5)) rfl (.free rfl) rfl (q_assign (v := tSlc.enc (r16.1)) rfl rfl) ?_
    refine ro_val (d := (some 6)) rfl (.free rfl) rfl (q_assign (v := .int .i64 (r16.2)) rfl rfl) ?_
    refine ro_nil ?_
    refine wp_seq ?_
    refine wp_text [0, 1, 2] rfl ?_
    refine ro_val (d := (some 38)) rfl (.free rfl) rfl (q_move (v := .pointer (r2)) rfl rfl) ?_
    refine ro_wp rfl (.free rfl) (wp_cl (d := (some 39)) rfl (q_call (k := 24) (l := [.pointer (r2), .int .i64 ((9 : Int))]) rfl ent24 rfl) h ?_)
    intro r18 w17 h
    refine ro_val (d := (some 7)) rfl (.free rfl) rfl (q_assign (v := .int .i64 (r18)) rfl rfl) ?_
    refine ro_nil ?_
    refine wp_seq ?_
    refine wp_text [0, 1, 2, 3, 4, 5, 6] rfl ?_
    refine ro_val (d := (some 41)) rfl (.free rfl) rfl (q_move (v := .pointer (r2)) rfl rfl) ?_
    refine ro_wp rfl (.free rfl) (wp_cl (d := (some 42)) rfl (q_call (k := 18) (l := [.pointer (r2), .int .i64 ((8 : Int))]) rfl ent18 rfl) h ?_)
    intro r20 w19 h
    refine ro_val (d := (some 40)) rfl (.free rfl) rfl (q_move (v := (tTup2 tSlc (tInt .i64)).enc (r20)) rfl rfl) ?_
    refine ro_val (d := (some 43)) rfl (.free rfl) rfl (q_extract (vs := #[tSlc.enc (r20.1), .int .i64 (r20.2)]) (v := tSlc.enc (r20.1)) rfl rfl rfl) ?_
    refine ro_val (d := (some 44)) rfl (.free rfl) rfl (q_extract (vs := #[tSlc.enc (r20.1), .int .i64 (r20.2)]) (v := .int .i64 (r20.2)) rfl rfl rfl) ?_
    refine ro_val (d := (some 8)) rfl (.free rfl) rfl (q_assign (v := tSlc.enc (r20.1)) rfl rfl) ?_
    refine ro_val (d := (some 9)) rfl (.free rfl) rfl (q_assign (v := .int .i64 (r20.2)) rfl rfl) ?_
    refine ro_nil ?_
    refine wp_seq ?_
    refine wp_text [0, 1, 2, 3, 4, 5, 6, 7] rfl ?_
    refine ro_val (d := (some 46)) rfl (.free rfl) rfl (q_move (v := .pointer (r2)) rfl rfl) ?_
    refine ro_wp rfl (.free rfl) (wp_cl (d := (some 47)) rfl (q_call (k := 25) (l := [.pointer (r2), .int .i64 ((2 : Int)), .int .i64 ((9 : Int))]) rfl ent25 rfl) h ?_)
    intro r22 w21 h
    refine ro_val (d := (some 45)) rfl (.free rfl) rfl (q_move (v := (tTup2 T35 (tInt .i64)).enc (r22)) rfl rfl) ?_
    refine ro_val (d := (some 48)) rfl (.free rfl) rfl (q_extract (vs := #[T35.enc (r22.1), .int .i64 (r22.2)]) (v := T35.enc (r22.1)) rfl rfl rfl) ?_
    refine ro_val (d := (some 49)) rfl (.free rfl) rfl (q_extract (vs := #[T35.enc (r22.1), .int .i64 (r22.2)]) (v := .int .i64 (r22.2)) rfl rfl rfl) ?_
    obtain ⟨a23, w24, ha23, hw24, h⟩ := nw_open h
    refine ro_val (d := (some 10)) rfl (.free rfl) rfl (q_alloc (u := Z35) rfl ok36 inf36 ha23 hw24) ?_
    obtain ⟨w25, hw25, hrw25, h⟩ := st_open h
    refine ro_skip (d := none) rfl (.free rfl) rfl (q_store (T := T35) (u := r22.1) (a := a23) rfl ok36 rfl rfl hrw25 hw25) ?_
    refine ro_val (d := (some 11)) rfl (.free rfl) rfl (q_assign (v := .int .i64 (r22.2)) rfl rfl) ?_
    refine ro_nil ?_
    refine wp_seq ?_
    refine wp_text [0, 1, 2, 3, 4, 5, 6, 7] rfl ?_
    refine ro_val (d := (some 51)) rfl (.free rfl) rfl (q_move (v := .pointer (r2)) rfl rfl) ?_
    refine ro_wp rfl (.free rfl) (wp_cl (d := (some 52)) rfl (q_call (k := 13) (l := [.pointer (r2), .int .i64 ((1 : Int))]) rfl ent13 rfl) h ?_)
    intro r27 w26 h
    refine ro_val (d := (some 50)) rfl (.free rfl) rfl (q_move (v := (tTup2 T35 tBool).enc (r27)) rfl rfl) ?_
    refine ro_val (d := (some 53)) rfl (.free rfl) rfl (q_extract (vs := #[T35.enc (r27.1), .bool (r27.2)]) (v := T35.enc (r27.1)) rfl rfl rfl) ?_
    refine ro_val (d := (some 54)) rfl (.free rfl) rfl (q_extract (vs := #[T35.enc (r27.1), .bool (r27.2)]) (v := .bool (r27.2)) rfl rfl rfl) ?_
    obtain ⟨a28, w29, ha28, hw29, h⟩ := nw_open h
    refine ro_val (d := (some 12)) rfl (.free rfl) rfl (q_alloc (u := Z35) rfl ok36 inf36 ha28 hw29) ?_
    obtain ⟨w30, hw30, hrw30, h⟩ := st_open h
    refine ro_skip (d := none) rfl (.free rfl) rfl (q_store (T := T35) (u := r27.1) (a := a28) rfl ok36 rfl rfl hrw30 hw30) ?_
    refine ro_val (d := (some 13)) rfl (.free rfl) rfl (q_assign (v := .bool (r27.2)) rfl rfl) ?_
    refine ro_nil ?_
    refine wp_seq ?_
    refine wp_text [0, 1, 2] rfl ?_
    refine ro_val (d := (some 55)) rfl (.free rfl) rfl (q_move (v := .pointer (r2)) rfl rfl) ?_
    refine ro_wp rfl (.free rfl) (wp_cl (d := (some 56)) rfl (q_call (k := 26) (l := [.pointer (r2), .int .i64 ((9 : Int))]) rfl ent26 rfl) h ?_)
    intro r32 w31 h
    refine ro_val (d := (some 14)) rfl (.free rfl) rfl (q_assign (v := .int .i64 (r32)) rfl rfl) ?_
    refine ro_nil ?_
    refine wp_seq ?_
    refine wp_text [0, 1, 2, 3, 4, 5, 6] rfl ?_
    refine ro_val (d := (some 58)) rfl (.free rfl) rfl (q_move (v := .pointer (r2)) rfl rfl) ?_
    refine ro_wp rfl (.free rfl) (wp_cl (d := (some 59)) rfl (q_call (k := 18) (l := [.pointer (r2), .int .i64 ((8 : Int))]) rfl ent18 rfl) h ?_)
    intro r34 w33 h
    refine ro_val (d := (some 57)) rfl (.free rfl) rfl (q_move (v := (tTup2 tSlc (tInt .i64)).enc (r34)) rfl rfl) ?_
    refine ro_val (d := (some 60)) rfl (.free rfl) rfl (q_extract (vs := #[tSlc.enc (r34.1), .int .i64 (r34.2)]) (v := tSlc.enc (r34.1)) rfl rfl rfl) ?_
    refine ro_val (d := (some 61)) rfl (.free rfl) rfl (q_extract (vs := #[tSlc.enc (r34.1), .int .i64 (r34.2)]) (v := .int .i64 (r34.2)) rfl rfl rfl) ?_
    refine ro_val (d := (some 15)) rfl (.free rfl) rfl (q_assign (v := tSlc.enc (r34.1)) rfl rfl) ?_
    refine ro_val (d := (some 16)) rfl (.free rfl) rfl (q_assign (v := .int .i64 (r34.2)) rfl rfl) ?_
    refine ro_nil ?_
    refine wp_seq ?_
    refine wp_text [0, 1, 2, 3, 4, 5, 6, 7, 8, 9, 10, 11, 12, 13, 14, 15, 16, 17, 18, 19, 20, 21, 22, 23, 24, 25, 26, 27, 28, 29, 30, 31, 32, 33, 34, 35, 36, 37, 38, 39, 40, 41, 42, 43, 44, 45, 46, 47, 48, 49, 50, 51, 52, 53, 54, 55, 56, 57, 58, 59, 60, 61, 62, 63, 64, 65, 66, 67, 68, 69, 70, 71, 72, 73, 74, 75, 76, 77, 78, 79, 80, 81] rfl ?_
    refine ro_val (d := (some 62)) rfl (.free rfl) rfl (q_move (v := .int .i64 (r6)) rfl rfl) ?_
    refine ro_val (d := (some 63)) rfl (.free rfl) rfl (q_eql (a := r6) (b := (0 : Int)) rfl rfl rfl) ?_
    refine ro_val (d := (some 64)) rfl (.free rfl) rfl (q_move (v := .bool ((r6 == (0 : Int)))) rfl rfl) ?_
    refine ro_gval (g := (r6 == (0 : Int))) (d := (some 65)) rfl (.yes 2 64 true (r6 == (0 : Int)) rfl rfl rfl rfl) rfl (fun hg => q_move (v := .int .i64 (r10)) rfl rfl) ?_
    refine ro_gval (g := (r6 == (0 : Int))) (d := (some 66)) rfl (.yes 2 64 true (r6 == (0 : Int)) rfl rfl rfl rfl) rfl (fun hg => q_eql (a := r10) (b := (0 : Int)) rfl (gvb_yes hg) rfl) ?_
    refine ro_val (d := (some 67)) rfl (.free rfl) rfl (q_pickGT (a := (r6 == (0 : Int))) (b := (r10 == (0 : Int))) rfl rfl rfl rfl) ?_
    refine ro_val (d := (some 68)) rfl (.free rfl) rfl (q_move (v := .bool (((r6 == (0 : Int)) && (r10 == (0 : Int))))) rfl rfl) ?_
    refine ro_gval (g := ((r6 == (0 : Int)) && (r10 == (0 : Int)))) (d := (some 69)) rfl (.yes 6 68 true ((r6 == (0 : Int)) && (r10 == (0 : Int))) rfl rfl rfl rfl) rfl (fun hg => q_move (v := .int .i64 (r14)) rfl rfl) ?_
    refine ro_gval (g := ((r6 == (0 : Int)) && (r10 == (0 : Int)))) (d := (some 70)) rfl (.yes 6 68 true ((r6 == (0 : Int)) && (r10 == (0 : Int))) rfl rfl rfl rfl) rfl (fun hg => q_eql (a := r14) (b := (0 : Int)) rfl (gvb_yes hg) rfl) ?_
    refine ro_val (d := (some 71)) rfl (.free rfl) rfl (q_pickGT (a := ((r6 == (0 : Int)) && (r10 == (0 : Int)))) (b := (r14 == (0 : Int))) rfl rfl rfl rfl) ?_
    refine ro_val (d := (some 72)) rfl (.free rfl) rfl (q_move (v := .bool ((((r6 == (0 : Int)) && (r10 == (0 : Int))) && (r14 == (0 : Int))))) rfl rfl) ?_
    refine ro_gval (g := (((r6 == (0 : Int)) && (r10 == (0 : Int))) && (r14 == (0 : Int)))) (d := (some 73)) rfl (.yes 10 72 true (((r6 == (0 : Int)) && (r10 == (0 : Int))) && (r14 == (0 : Int))) rfl rfl rfl rfl) rfl (fun hg => q_move (v := .int .i64 (r16.2)) rfl rfl) ?_
    refine ro_gval (g := (((r6 == (0 : Int)) && (r10 == (0 : Int))) && (r14 == (0 : Int)))) (d := (some 74)) rfl (.yes 10 72 true (((r6 == (0 : Int)) && (r10 == (0 : Int))) && (r14 == (0 : Int))) rfl rfl rfl rfl) rfl (fun hg => q_eql (a := r16.2) (b := (128 : Int)) rfl (gvb_yes hg) rfl) ?_
    refine ro_val (d := (some 75)) rfl (.free rfl) rfl (q_pickGT (a := (((r6 == (0 : Int)) && (r10 == (0 : Int))) && (r14 == (0 : Int)))) (b := (r16.2 == (128 : Int))) rfl rfl rfl rfl) ?_
    refine ro_val (d := (some 76)) rfl (.free rfl) rfl (q_move (v := .bool (((((r6 == (0 : Int)) && (r10 == (0 : Int))) && (r14 == (0 : Int))) && (r16.2 == (128 : Int))))) rfl rfl) ?_
    refine ro_gval (g := ((((r6 == (0 : Int)) && (r10 == (0 : Int))) && (r14 == (0 : Int))) && (r16.2 == (128 : Int)))) (d := (some 77)) rfl (.yes 14 76 true ((((r6 == (0 : Int)) && (r10 == (0 : Int))) && (r14 == (0 : Int))) && (r16.2 == (128 : Int))) rfl rfl rfl rfl) rfl (fun hg => q_move (v := .int .i64 (r18)) rfl rfl) ?_
    refine ro_gval (g := ((((r6 == (0 : Int)) && (r10 == (0 : Int))) && (r14 == (0 : Int))) && (r16.2 == (128 : Int)))) (d := (some 78)) rfl (.yes 14 76 true ((((r6 == (0 : Int)) && (r10 == (0 : Int))) && (r14 == (0 : Int))) && (r16.2 == (128 : Int))) rfl rfl rfl rfl) rfl (fun hg => q_eql (a := r18) (b := (0 : Int)) rfl (gvb_yes hg) rfl) ?_
    refine ro_val (d := (some 79)) rfl (.free rfl) rfl (q_pickGT (a := ((((r6 == (0 : Int)) && (r10 == (0 : Int))) && (r14 == (0 : Int))) && (r16.2 == (128 : Int)))) (b := (r18 == (0 : Int))) rfl rfl rfl rfl) ?_
    refine ro_val (d := (some 80)) rfl (.free rfl) rfl (q_move (v := .bool ((((((r6 == (0 : Int)) && (r10 == (0 : Int))) && (r14 == (0 : Int))) && (r16.2 == (128 : Int))) && (r18 == (0 : Int))))) rfl rfl) ?_
    refine ro_gval (g := (((((r6 == (0 : Int)) && (r10 == (0 : Int))) && (r14 == (0 : Int))) && (r16.2 == (128 : Int))) && (r18 == (0 : Int)))) (d := (some 81)) rfl (.yes 18 80 true (((((r6 == (0 : Int)) && (r10 == (0 : Int))) && (r14 == (0 : Int))) && (r16.2 == (128 : Int))) && (r18 == (0 : Int))) rfl rfl rfl rfl) rfl (fun hg => q_move (v := .int .i64 (r20.2)) rfl rfl) ?_
    refine ro_gval (g := (((((r6 == (0 : Int)) && (r10 == (0 : Int))) && (r14 == (0 : Int))) && (r16.2 == (128 : Int))) && (r18 == (0 : Int)))) (d := (some 82)) rfl (.yes 18 80 true (((((r6 == (0 : Int)) && (r10 == (0 : Int))) && (r14 == (0 : Int))) && (r16.2 == (128 : Int))) && (r18 == (0 : Int))) rfl rfl rfl rfl) rfl (fun hg => q_eql (a := r20.2) (b := (0 : Int)) rfl (gvb_yes hg) rfl) ?_
    refine ro_val (d := (some 83)) rfl (.free rfl) rfl (q_pickGT (a := (((((r6 == (0 : Int)) && (r10 == (0 : Int))) && (r14 == (0 : Int))) && (r16.2 == (128 : Int))) && (r18 == (0 : Int)))) (b := (r20.2 == (0 : Int))) rfl rfl rfl rfl) ?_
    refine ro_val (d := (some 84)) rfl (.free rfl) rfl (q_move (v := .bool (((((((r6 == (0 : Int)) && (r10 == (0 : Int))) && (r14 == (0 : Int))) && (r16.2 == (128 : Int))) && (r18 == (0 : Int))) && (r20.2 == (0 : Int))))) rfl rfl) ?_
    refine ro_gval (g := ((((((r6 == (0 : Int)) && (r10 == (0 : Int))) && (r14 == (0 : Int))) && (r16.2 == (128 : Int))) && (r18 == (0 : Int))) && (r20.2 == (0 : Int)))) (d := (some 85)) rfl (.yes 22 84 true ((((((r6 == (0 : Int)) && (r10 == (0 : Int))) && (r14 == (0 : Int))) && (r16.2 == (128 : Int))) && (r18 == (0 : Int))) && (r20.2 == (0 : Int))) rfl rfl rfl rfl) rfl (fun hg => q_move (v := tSlc.enc (r20.1)) rfl rfl) ?_
    refine ro_gval (g := ((((((r6 == (0 : Int)) && (r10 == (0 : Int))) && (r14 == (0 : Int))) && (r16.2 == (128 : Int))) && (r18 == (0 : Int))) && (r20.2 == (0 : Int)))) (d := (some 86)) rfl (.yes 22 84 true ((((((r6 == (0 : Int)) && (r10 == (0 : Int))) && (r14 == (0 : Int))) && (r16.2 == (128 : Int))) && (r18 == (0 : Int))) && (r20.2 == (0 : Int))) rfl rfl rfl rfl) rfl (fun hg => q_len (s := r20.1) rfl Try.underlying31 (gvb_yes hg)) ?_
    refine ro_gval (g := ((((((r6 == (0 : Int)) && (r10 == (0 : Int))) && (r14 == (0 : Int))) && (r16.2 == (128 : Int))) && (r18 == (0 : Int))) && (r20.2 == (0 : Int)))) (d := (some 87)) rfl (.yes 22 84 true ((((((r6 == (0 : Int)) && (r10 == (0 : Int))) && (r14 == (0 : Int))) && (r16.2 == (128 : Int))) && (r18 == (0 : Int))) && (r20.2 == (0 : Int))) rfl rfl rfl rfl) rfl (fun hg => q_eql (a := (r20.1.len : Int)) (b := (2 : Int)) rfl (gvb_yes hg) rfl) ?_
    refine ro_val (d := (some 88)) rfl (.free rfl) rfl (q_pickGT (a := ((((((r6 == (0 : Int)) && (r10 == (0 : Int))) && (r14 == (0 : Int))) && (r16.2 == (128 : Int))) && (r18 == (0 : Int))) && (r20.2 == (0 : Int)))) (b := ((r20.1.len : Int) == (2 : Int))) rfl rfl rfl rfl) ?_
    refine ro_val (d := (some 89)) rfl (.free rfl) rfl (q_move (v := .bool ((((((((r6 == (0 : Int)) && (r10 == (0 : Int))) && (r14 == (0 : Int))) && (r16.2 == (128 : Int))) && (r18 == (0 : Int))) && (r20.2 == (0 : Int))) && ((r20.1.len : Int) == (2 : Int))))) rfl rfl) ?_
    refine ro_gval (g := (((((((r6 == (0 : Int)) && (r10 == (0 : Int))) && (r14 == (0 : Int))) && (r16.2 == (128 : Int))) && (r18 == (0 : Int))) && (r20.2 == (0 : Int))) && ((r20.1.len : Int) == (2 : Int)))) (d := (some 90)) rfl (.yes 27 89 true (((((((r6 == (0 : Int)) && (r10 == (0 : Int))) && (r14 == (0 : Int))) && (r16.2 == (128 : Int))) && (r18 == (0 : Int))) && (r20.2 == (0 : Int))) && ((r20.1.len : Int) == (2 : Int))) rfl rfl rfl rfl) rfl (fun hg => q_move (v := tSlc.enc (r20.1)) rfl rfl) ?_
    obtain ⟨a35, ha35, h⟩ := h
    refine ro_gval (g := (((((((r6 == (0 : Int)) && (r10 == (0 : Int))) && (r14 == (0 : Int))) && (r16.2 == (128 : Int))) && (r18 == (0 : Int))) && (r20.2 == (0 : Int))) && ((r20.1.len : Int) == (2 : Int)))) (d := (some 91)) rfl (.yes 27 89 true (((((((r6 == (0 : Int)) && (r10 == (0 : Int))) && (r14 == (0 : Int))) && (r16.2 == (128 : Int))) && (r18 == (0 : Int))) && (r20.2 == (0 : Int))) && ((r20.1.len : Int) == (2 : Int))) rfl rfl rfl rfl) rfl (fun hg => q_indexAddr (s := r20.1) (i := (0 : Int)) rfl Try.underlying31 ok58 (gvb_yes hg) rfl (ha35 hg)) ?_
    refine ro_gval (g := (((((((r6 == (0 : Int)) && (r10 == (0 : Int))) && (r14 == (0 : Int))) && (r16.2 == (128 : Int))) && (r18 == (0 : Int))) && (r20.2 == (0 : Int))) && ((r20.1.len : Int) == (2 : Int)))) (d := (some 92)) rfl (.yes 27 89 true (((((((r6 == (0 : Int)) && (r10 == (0 : Int))) && (r14 == (0 : Int))) && (r16.2 == (128 : Int))) && (r18 == (0 : Int))) && (r20.2 == (0 : Int))) && ((r20.1.len : Int) == (2 : Int))) rfl rfl rfl rfl) rfl (fun hg => q_fieldAddr (a := a35) (off := 1) rfl Try.underlying58 rfl rfl ok2 (by decide) (gvb_yes hg)) ?_
    obtain ⟨x36, hx36, h⟩ := h
    refine ro_gval (g := (((((((r6 == (0 : Int)) && (r10 == (0 : Int))) && (r14 == (0 : Int))) && (r16.2 == (128 : Int))) && (r18 == (0 : Int))) && (r20.2 == (0 : Int))) && ((r20.1.len : Int) == (2 : Int)))) (d := (some 93)) rfl (.yes 27 89 true (((((((r6 == (0 : Int)) && (r10 == (0 : Int))) && (r14 == (0 : Int))) && (r16.2 == (128 : Int))) && (r18 == (0 : Int))) && (r20.2 == (0 : Int))) && ((r20.1.len : Int) == (2 : Int))) rfl rfl rfl rfl) rfl (fun hg => q_load (T := (tInt .i64)) (u := x36) (a := (a35.add 1)) rfl ok2 (gvb_yes hg) (hx36 hg)) ?_
    refine ro_gval (g := (((((((r6 == (0 : Int)) && (r10 == (0 : Int))) && (r14 == (0 : Int))) && (r16.2 == (128 : Int))) && (r18 == (0 : Int))) && (r20.2 == (0 : Int))) && ((r20.1.len : Int) == (2 : Int)))) (d := (some 94)) rfl (.yes 27 89 true (((((((r6 == (0 : Int)) && (r10 == (0 : Int))) && (r14 == (0 : Int))) && (r16.2 == (128 : Int))) && (r18 == (0 : Int))) && (r20.2 == (0 : Int))) && ((r20.1.len : Int) == (2 : Int))) rfl rfl rfl rfl) rfl (fun hg => q_eql (a := x36) (b := (70 : Int)) rfl (gvb_yes hg) rfl) ?_
    refine ro_val (d := (some 95)) rfl (.free rfl) rfl (q_pickGT (a := (((((((r6 == (0 : Int)) && (r10 == (0 : Int))) && (r14 == (0 : Int))) && (r16.2 == (128 : Int))) && (r18 == (0 : Int))) && (r20.2 == (0 : Int))) && ((r20.1.len : Int) == (2 : Int)))) (b := (x36 == (70 : Int))) rfl rfl rfl rfl) ?_
    refine ro_val (d := (some 96)) rfl (.free rfl) rfl (q_move (v := .bool (((((((((r6 == (0 : Int)) && (r10 == (0 : Int))) && (r14 == (0 : Int))) && (r16.2 == (128 : Int))) && (r18 == (0 : Int))) && (r20.2 == (0 : Int))) && ((r20.1.len : Int) == (2 : Int))) && (x36 == (70 : Int))))) rfl rfl) ?_
    refine ro_gval (g := ((((((((r6 == (0 : Int)) && (r10 == (0 : Int))) && (r14 == (0 : Int))) && (r16.2 == (128 : Int))) && (r18 == (0 : Int))) && (r20.2 == (0 : Int))) && ((r20.1.len : Int) == (2 : Int))) && (x36 == (70 : Int)))) (d := (some 97)) rfl (.yes 34 96 true ((((((((r6 == (0 : Int)) && (r10 == (0 : Int))) && (r14 == (0 : Int))) && (r16.2 == (128 : Int))) && (r18 == (0 : Int))) && (r20.2 == (0 : Int))) && ((r20.1.len : Int) == (2 : Int))) && (x36 == (70 : Int))) rfl rfl rfl rfl) rfl (fun hg => q_move (v := tSlc.enc (r20.1)) rfl rfl) ?_
    obtain ⟨a37, ha37, h⟩ := h
    refine ro_gval (g := ((((((((r6 == (0 : Int)) && (r10 == (0 : Int))) && (r14 == (0 : Int))) && (r16.2 == (128 : Int))) && (r18 == (0 : Int))) && (r20.2 == (0 : Int))) && ((r20.1.len : Int) == (2 : Int))) && (x36 == (70 : Int)))) (d := (some 98)) rfl (.yes 34 96 true ((((((((r6 == (0 : Int)) && (r10 == (0 : Int))) && (r14 == (0 : Int))) && (r16.2 == (128 : Int))) && (r18 == (0 : Int))) && (r20.2 == (0 : Int))) && ((r20.1.len : Int) == (2 : Int))) && (x36 == (70 : Int))) rfl rfl rfl rfl) rfl (fun hg => q_indexAddr (s := r20.1) (i := (1 : Int)) rfl Try.underlying31 ok58 (gvb_yes hg) rfl (ha37 hg)) ?_
    refine ro_gval (g := ((((((((r6 == (0 : Int)) && (r10 == (0 : Int))) && (r14 == (0 : Int))) && (r16.2 == (128 : Int))) && (r18 == (0 : Int))) && (r20.2 == (0 : Int))) && ((r20.1.len : Int) == (2 : Int))) && (x36 == (70 : Int)))) (d := (some 99)) rfl (.yes 34 96 true ((((((((r6 == (0 : Int)) && (r10 == (0 : Int))) && (r14 == (0 : Int))) && (r16.2 == (128 : Int))) && (r18 == (0 : Int))) && (r20.2 == (0 : Int))) && ((r20.1.len : Int) == (2 : Int))) && (x36 == (70 : Int))) rfl rfl rfl rfl) rfl (fun hg => q_fieldAddr (a := a37) (off := 1) rfl Try.underlying58 rfl rfl ok2 (by decide) (gvb_yes hg)) ?_
    obtain ⟨x38, hx38, h⟩ := h
    refine ro_gval (g := ((((((((r6 == (0 : Int)) && (r10 == (0 : Int))) && (r14 == (0 : Int))) && (r16.2 == (128 : Int))) && (r18 == (0 : Int))) && (r20.2 == (0 : Int))) && ((r20.1.len : Int) == (2 : Int))) && (x36 == (70 : Int)))) (d := (some 100)) rfl (.yes 34 96 true ((((((((r6 == (0 : Int)) && (r10 == (0 : Int))) && (r14 == (0 : Int))) && (r16.2 == (128 : Int))) && (r18 == (0 : Int))) && (r20.2 == (0 : Int))) && ((r20.1.len : Int) == (2 : Int))) && (x36 == (70 : Int))) rfl rfl rfl rfl) rfl (fun hg => q_load (T := (tInt .i64)) (u := x38) (a := (a37.add 1)) rfl ok2 (gvb_yes hg) (hx38 hg)) ?_
    refine ro_gval (g := ((((((((r6 == (0 : Int)) && (r10 == (0 : Int))) && (r14 == (0 : Int))) && (r16.2 == (128 : Int))) && (r18 == (0 : Int))) && (r20.2 == (0 : Int))) && ((r20.1.len : Int) == (2 : Int))) && (x36 == (70 : Int)))) (d := (some 101)) rfl (.yes 34 96 true ((((((((r6 == (0 : Int)) && (r10 == (0 : Int))) && (r14 == (0 : Int))) && (r16.2 == (128 : Int))) && (r18 == (0 : Int))) && (r20.2 == (0 : Int))) && ((r20.1.len : Int) == (2 : Int))) && (x36 == (70 : Int))) rfl rfl rfl rfl) rfl (fun hg => q_eql (a := x38) (b := (50 : Int)) rfl (gvb_yes hg) rfl) ?_
    refine ro_val (d := (some 102)) rfl (.free rfl) rfl (q_pickGT (a := ((((((((r6 == (0 : Int)) && (r10 == (0 : Int))) && (r14 == (0 : Int))) && (r16.2 == (128 : Int))) && (r18 == (0 : Int))) && (r20.2 == (0 : Int))) && ((r20.1.len : Int) == (2 : Int))) && (x36 == (70 : Int)))) (b := (x38 == (50 : Int))) rfl rfl rfl rfl) ?_
    refine ro_val (d := (some 103)) rfl (.free rfl) rfl (q_move (v := .bool ((((((((((r6 == (0 : Int)) && (r10 == (0 : Int))) && (r14 == (0 : Int))) && (r16.2 == (128 : Int))) && (r18 == (0 : Int))) && (r20.2 == (0 : Int))) && ((r20.1.len : Int) == (2 : Int))) && (x36 == (70 : Int))) && (x38 == (50 : Int))))) rfl rfl) ?_
    refine ro_gval (g := (((((((((r6 == (0 : Int)) && (r10 == (0 : Int))) && (r14 == (0 : Int))) && (r16.2 == (128 : Int))) && (r18 == (0 : Int))) && (r20.2 == (0 : Int))) && ((r20.1.len : Int) == (2 : Int))) && (x36 == (70 : Int))) && (x38 == (50 : Int)))) (d := (some 104)) rfl (.yes 41 103 true (((((((((r6 == (0 : Int)) && (r10 == (0 : Int))) && (r14 == (0 : Int))) && (r16.2 == (128 : Int))) && (r18 == (0 : Int))) && (r20.2 == (0 : Int))) && ((r20.1.len : Int) == (2 : Int))) && (x36 == (70 : Int))) && (x38 == (50 : Int))) rfl rfl rfl rfl) rfl (fun hg => q_move (v := .int .i64 (r22.2)) rfl rfl) ?_
    refine ro_gval (g := (((((((((r6 == (0 : Int)) && (r10 == (0 : Int))) && (r14 == (0 : Int))) && (r16.2 == (128 : Int))) && (r18 == (0 : Int))) && (r20.2 == (0 : Int))) && ((r20.1.len : Int) == (2 : Int))) && (x36 == (70 : Int))) && (x38 == (50 : Int)))) (d := (some 105)) rfl (.yes 41 103 true (((((((((r6 == (0 : Int)) && (r10 == (0 : Int))) && (r14 == (0 : Int))) && (r16.2 == (128 : Int))) && (r18 == (0 : Int))) && (r20.2 == (0 : Int))) && ((r20.1.len : Int) == (2 : Int))) && (x36 == (70 : Int))) && (x38 == (50 : Int))) rfl rfl rfl rfl) rfl (fun hg => q_eql (a := r22.2) (b := (0 : Int)) rfl (gvb_yes hg) rfl) ?_
    refine ro_val (d := (some 106)) rfl (.free rfl) rfl (q_pickGT (a := (((((((((r6 == (0 : Int)) && (r10 == (0 : Int))) && (r14 == (0 : Int))) && (r16.2 == (128 : Int))) && (r18 == (0 : Int))) && (r20.2 == (0 : Int))) && ((r20.1.len : Int) == (2 : Int))) && (x36 == (70 : Int))) && (x38 == (50 : Int)))) (b := (r22.2 == (0 : Int))) rfl rfl rfl rfl) ?_
    refine ro_val (d := (some 107)) rfl (.free rfl) rfl (q_move (v := .bool (((((((((((r6 == (0 : Int)) && (r10 == (0 : Int))) && (r14 == (0 : Int))) && (r16.2 == (128 : Int))) && (r18 == (0 : Int))) && (r20.2 == (0 : Int))) && ((r20.1.len : Int) == (2 : Int))) && (x36 == (70 : Int))) && (x38 == (50 : Int))) && (r22.2 == (0 : Int))))) rfl rfl) ?_
    refine ro_gval (g := ((((((((((r6 == (0 : Int)) && (r10 == (0 : Int))) && (r14 == (0 : Int))) && (r16.2 == (128 : Int))) && (r18 == (0 : Int))) && (r20.2 == (0 : Int))) && ((r20.1.len : Int) == (2 : Int))) && (x36 == (70 : Int))) && (x38 == (50 : Int))) && (r22.2 == (0 : Int)))) (d := (some 108)) rfl (.yes 45 107 true ((((((((((r6 == (0 : Int)) && (r10 == (0 : Int))) && (r14 == (0 : Int))) && (r16.2 == (128 : Int))) && (r18 == (0 : Int))) && (r20.2 == (0 : Int))) && ((r20.1.len : Int) == (2 : Int))) && (x36 == (70 : Int))) && (x38 == (50 : Int))) && (r22.2 == (0 : Int))) rfl rfl rfl rfl) rfl (fun hg => q_fieldAddr (a := a23) (off := 1) rfl Try.underlying36 rfl rfl ok2 (by decide) rfl) ?_
    obtain ⟨x39, hx39, h⟩ := h
    refine ro_gval (g := ((((((((((r6 == (0 : Int)) && (r10 == (0 : Int))) && (r14 == (0 : Int))) && (r16.2 == (128 : Int))) && (r18 == (0 : Int))) && (r20.2 == (0 : Int))) && ((r20.1.len : Int) == (2 : Int))) && (x36 == (70 : Int))) && (x38 == (50 : Int))) && (r22.2 == (0 : Int)))) (d := (some 109)) rfl (.yes 45 107 true ((((((((((r6 == (0 : Int)) && (r10 == (0 : Int))) && (r14 == (0 : Int))) && (r16.2 == (128 : Int))) && (r18 == (0 : Int))) && (r20.2 == (0 : Int))) && ((r20.1.len : Int) == (2 : Int))) && (x36 == (70 : Int))) && (x38 == (50 : Int))) && (r22.2 == (0 : Int))) rfl rfl rfl rfl) rfl (fun hg => q_load (T := (tInt .i64)) (u := x39) (a := (a23.add 1)) rfl ok2 (gvb_yes hg) (hx39 hg)) ?_
    refine ro_gval (g := ((((((((((r6 == (0 : Int)) && (r10 == (0 : Int))) && (r14 == (0 : Int))) && (r16.2 == (128 : Int))) && (r18 == (0 : Int))) && (r20.2 == (0 : Int))) && ((r20.1.len : Int) == (2 : Int))) && (x36 == (70 : Int))) && (x38 == (50 : Int))) && (r22.2 == (0 : Int)))) (d := (some 110)) rfl (.yes 45 107 true ((((((((((r6 == (0 : Int)) && (r10 == (0 : Int))) && (r14 == (0 : Int))) && (r16.2 == (128 : Int))) && (r18 == (0 : Int))) && (r20.2 == (0 : Int))) && ((r20.1.len : Int) == (2 : Int))) && (x36 == (70 : Int))) && (x38 == (50 : Int))) && (r22.2 == (0 : Int))) rfl rfl rfl rfl) rfl (fun hg => q_eql (a := x39) (b := (80 : Int)) rfl (gvb_yes hg) rfl) ?_
    refine ro_val (d := (some 111)) rfl (.free rfl) rfl (q_pickGT (a := ((((((((((r6 == (0 : Int)) && (r10 == (0 : Int))) && (r14 == (0 : Int))) && (r16.2 == (128 : Int))) && (r18 == (0 : Int))) && (r20.2 == (0 : Int))) && ((r20.1.len : Int) == (2 : Int))) && (x36 == (70 : Int))) && (x38 == (50 : Int))) && (r22.2 == (0 : Int)))) (b := (x39 == (80 : Int))) rfl rfl rfl rfl) ?_
    refine ro_val (d := (some 112)) rfl (.free rfl) rfl (q_move (v := .bool ((((((((((((r6 == (0 : Int)) && (r10 == (0 : Int))) && (r14 == (0 : Int))) && (r16.2 == (128 : Int))) && (r18 == (0 : Int))) && (r20.2 == (0 : Int))) && ((r20.1.len : Int) == (2 : Int))) && (x36 == (70 : Int))) && (x38 == (50 : Int))) && (r22.2 == (0 : Int))) && (x39 == (80 : Int))))) rfl rfl) ?_
    refine ro_gval (g := (((((((((((r6 == (0 : Int)) && (r10 == (0 : Int))) && (r14 == (0 : Int))) && (r16.2 == (128 : Int))) && (r18 == (0 : Int))) && (r20.2 == (0 : Int))) && ((r20.1.len : Int) == (2 : Int))) && (x36 == (70 : Int))) && (x38 == (50 : Int))) && (r22.2 == (0 : Int))) && (x39 == (80 : Int)))) (d := (some 113)) rfl (.yes 50 112 true (((((((((((r6 == (0 : Int)) && (r10 == (0 : Int))) && (r14 == (0 : Int))) && (r16.2 == (128 : Int))) && (r18 == (0 : Int))) && (r20.2 == (0 : Int))) && ((r20.1.len : Int) == (2 : Int))) && (x36 == (70 : Int))) && (x38 == (50 : Int))) && (r22.2 == (0 : Int))) && (x39 == (80 : Int))) rfl rfl rfl rfl) rfl (fun hg => q_move (v := .bool (r27.2)) rfl rfl) ?_
    refine ro_val (d := (some 114)) rfl (.free rfl) rfl (q_pickGT (a := (((((((((((r6 == (0 : Int)) && (r10 == (0 : Int))) && (r14 == (0 : Int))) && (r16.2 == (128 : Int))) && (r18 == (0 : Int))) && (r20.2 == (0 : Int))) && ((r20.1.len : Int) == (2 : Int))) && (x36 == (70 : Int))) && (x38 == (50 : Int))) && (r22.2 == (0 : Int))) && (x39 == (80 : Int)))) (b := r27.2) rfl rfl rfl rfl) ?_
    refine ro_val (d := (some 115)) rfl (.free rfl) rfl (q_move (v := .bool (((((((((((((r6 == (0 : Int)) && (r10 == (0 : Int))) && (r14 == (0 : Int))) && (r16.2 == (128 : Int))) && (r18 == (0 : Int))) && (r20.2 == (0 : Int))) && ((r20.1.len : Int) == (2 : Int))) && (x36 == (70 : Int))) && (x38 == (50 : Int))) && (r22.2 == (0 : Int))) && (x39 == (80 : Int))) && r27.2))) rfl rfl) ?_
    refine ro_gval (g := ((((((((((((r6 == (0 : Int)) && (r10 == (0 : Int))) && (r14 == (0 : Int))) && (r16.2 == (128 : Int))) && (r18 == (0 : Int))) && (r20.2 == (0 : Int))) && ((r20.1.len : Int) == (2 : Int))) && (x36 == (70 : Int))) && (x38 == (50 : Int))) && (r22.2 == (0 : Int))) && (x39 == (80 : Int))) && r27.2)) (d := (some 116)) rfl (.yes 53 115 true ((((((((((((r6 == (0 : Int)) && (r10 == (0 : Int))) && (r14 == (0 : Int))) && (r16.2 == (128 : Int))) && (r18 == (0 : Int))) && (r20.2 == (0 : Int))) && ((r20.1.len : Int) == (2 : Int))) && (x36 == (70 : Int))) && (x38 == (50 : Int))) && (r22.2 == (0 : Int))) && (x39 == (80 : Int))) && r27.2) rfl rfl rfl rfl) rfl (fun hg => q_fieldAddr (a := a28) (off := 0) rfl Try.underlying36 rfl rfl ok2 (by decide) rfl) ?_
    obtain ⟨x40, hx40, h⟩ := h
    refine ro_gval (g := ((((((((((((r6 == (0 : Int)) && (r10 == (0 : Int))) && (r14 == (0 : Int))) && (r16.2 == (128 : Int))) && (r18 == (0 : Int))) && (r20.2 == (0 : Int))) && ((r20.1.len : Int) == (2 : Int))) && (x36 == (70 : Int))) && (x38 == (50 : Int))) && (r22.2 == (0 : Int))) && (x39 == (80 : Int))) && r27.2)) (d := (some 117)) rfl (.yes 53 115 true ((((((((((((r6 == (0 : Int)) && (r10 == (0 : Int))) && (r14 == (0 : Int))) && (r16.2 == (128 : Int))) && (r18 == (0 : Int))) && (r20.2 == (0 : Int))) && ((r20.1.len : Int) == (2 : Int))) && (x36 == (70 : Int))) && (x38 == (50 : Int))) && (r22.2 == (0 : Int))) && (x39 == (80 : Int))) && r27.2) rfl rfl rfl rfl) rfl (fun hg => q_load (T := (tInt .i64)) (u := x40) (a := (a28.add 0)) rfl ok2 (gvb_yes hg) (hx40 hg)) ?_
    refine ro_gval (g := ((((((((((((r6 == (0 : Int)) && (r10 == (0 : Int))) && (r14 == (0 : Int))) && (r16.2 == (128 : Int))) && (r18 == (0 : Int))) && (r20.2 == (0 : Int))) && ((r20.1.len : Int) == (2 : Int))) && (x36 == (70 : Int))) && (x38 == (50 : Int))) && (r22.2 == (0 : Int))) && (x39 == (80 : Int))) && r27.2)) (d := (some 118)) rfl (.yes 53 115 true ((((((((((((r6 == (0 : Int)) && (r10 == (0 : Int))) && (r14 == (0 : Int))) && (r16.2 == (128 : Int))) && (r18 == (0 : Int))) && (r20.2 == (0 : Int))) && ((r20.1.len : Int) == (2 : Int))) && (x36 == (70 : Int))) && (x38 == (50 : Int))) && (r22.2 == (0 : Int))) && (x39 == (80 : Int))) && r27.2) rfl rfl rfl rfl) rfl (fun hg => q_eql (a := x40) (b := (7 : Int)) rfl (gvb_yes hg) rfl) ?_
    refine ro_val (d := (some 119)) rfl (.free rfl) rfl (q_pickGT (a := ((((((((((((r6 == (0 : Int)) && (r10 == (0 : Int))) && (r14 == (0 : Int))) && (r16.2 == (128 : Int))) && (r18 == (0 : Int))) && (r20.2 == (0 : Int))) && ((r20.1.len : Int) == (2 : Int))) && (x36 == (70 : Int))) && (x38 == (50 : Int))) && (r22.2 == (0 : Int))) && (x39 == (80 : Int))) && r27.2)) (b := (x40 == (7 : Int))) rfl rfl rfl rfl) ?_
    refine ro_val (d := (some 120)) rfl (.free rfl) rfl (q_move (v := .bool ((((((((((((((r6 == (0 : Int)) && (r10 == (0 : Int))) && (r14 == (0 : Int))) && (r16.2 == (128 : Int))) && (r18 == (0 : Int))) && (r20.2 == (0 : Int))) && ((r20.1.len : Int) == (2 : Int))) && (x36 == (70 : Int))) && (x38 == (50 : Int))) && (r22.2 == (0 : Int))) && (x39 == (80 : Int))) && r27.2) && (x40 == (7 : Int))))) rfl rfl) ?_
    refine ro_gval (g := (((((((((((((r6 == (0 : Int)) && (r10 == (0 : Int))) && (r14 == (0 : Int))) && (r16.2 == (128 : Int))) && (r18 == (0 : Int))) && (r20.2 == (0 : Int))) && ((r20.1.len : Int) == (2 : Int))) && (x36 == (70 : Int))) && (x38 == (50 : Int))) && (r22.2 == (0 : Int))) && (x39 == (80 : Int))) && r27.2) && (x40 == (7 : Int)))) (d := (some 121)) rfl (.yes 58 120 true (((((((((((((r6 == (0 : Int)) && (r10 == (0 : Int))) && (r14 == (0 : Int))) && (r16.2 == (128 : Int))) && (r18 == (0 : Int))) && (r20.2 == (0 : Int))) && ((r20.1.len : Int) == (2 : Int))) && (x36 == (70 : Int))) && (x38 == (50 : Int))) && (r22.2 == (0 : Int))) && (x39 == (80 : Int))) && r27.2) && (x40 == (7 : Int))) rfl rfl rfl rfl) rfl (fun hg => q_move (v := .int .i64 (r32)) rfl rfl) ?_
    refine ro_gval (g := (((((((((((((r6 == (0 : Int)) && (r10 == (0 : Int))) && (r14 == (0 : Int))) && (r16.2 == (128 : Int))) && (r18 == (0 : Int))) && (r20.2 == (0 : Int))) && ((r20.1.len : Int) == (2 : Int))) && (x36 == (70 : Int))) && (x38 == (50 : Int))) && (r22.2 == (0 : Int))) && (x39 == (80 : Int))) && r27.2) && (x40 == (7 : Int)))) (d := (some 122)) rfl (.yes 58 120 true (((((((((((((r6 == (0 : Int)) && (r10 == (0 : Int))) && (r14 == (0 : Int))) && (r16.2 == (128 : Int))) && (r18 == (0 : Int))) && (r20.2 == (0 : Int))) && ((r20.1.len : Int) == (2 : Int))) && (x36 == (70 : Int))) && (x38 == (50 : Int))) && (r22.2 == (0 : Int))) && (x39 == (80 : Int))) && r27.2) && (x40 == (7 : Int))) rfl rfl rfl rfl) rfl (fun hg => q_eql (a := r32) (b := (0 : Int)) rfl (gvb_yes hg) rfl) ?_
    refine ro_val (d := (some 123)) rfl (.free rfl) rfl (q_pickGT (a := (((((((((((((r6 == (0 : Int)) && (r10 == (0 : Int))) && (r14 == (0 : Int))) && (r16.2 == (128 : Int))) && (r18 == (0 : Int))) && (r20.2 == (0 : Int))) && ((r20.1.len : Int) == (2 : Int))) && (x36 == (70 : Int))) && (x38 == (50 : Int))) && (r22.2 == (0 : Int))) && (x39 == (80 : Int))) && r27.2) && (x40 == (7 : Int)))) (b := (r32 == (0 : Int))) rfl rfl rfl rfl) ?_
    refine ro_val (d := (some 124)) rfl (.free rfl) rfl (q_move (v := .bool (((((((((((((((r6 == (0 : Int)) && (r10 == (0 : Int))) && (r14 == (0 : Int))) && (r16.2 == (128 : Int))) && (r18 == (0 : Int))) && (r20.2 == (0 : Int))) && ((r20.1.len : Int) == (2 : Int))) && (x36 == (70 : Int))) && (x38 == (50 : Int))) && (r22.2 == (0 : Int))) && (x39 == (80 : Int))) && r27.2) && (x40 == (7 : Int))) && (r32 == (0 : Int))))) rfl rfl) ?_
    refine ro_gval (g := ((((((((((((((r6 == (0 : Int)) && (r10 == (0 : Int))) && (r14 == (0 : Int))) && (r16.2 == (128 : Int))) && (r18 == (0 : Int))) && (r20.2 == (0 : Int))) && ((r20.1.len : Int) == (2 : Int))) && (x36 == (70 : Int))) && (x38 == (50 : Int))) && (r22.2 == (0 : Int))) && (x39 == (80 : Int))) && r27.2) && (x40 == (7 : Int))) && (r32 == (0 : Int)))) (d := (some 125)) rfl (.yes 62 124 true ((((((((((((((r6 == (0 : Int)) && (r10 == (0 : Int))) && (r14 == (0 : Int))) && (r16.2 == (128 : Int))) && (r18 == (0 : Int))) && (r20.2 == (0 : Int))) && ((r20.1.len : Int) == (2 : Int))) && (x36 == (70 : Int))) && (x38 == (50 : Int))) && (r22.2 == (0 : Int))) && (x39 == (80 : Int))) && r27.2) && (x40 == (7 : Int))) && (r32 == (0 : Int))) rfl rfl rfl rfl) rfl (fun hg => q_move (v := .int .i64 (r34.2)) rfl rfl) ?_
    refine ro_gval (g := ((((((((((((((r6 == (0 : Int)) && (r10 == (0 : Int))) && (r14 == (0 : Int))) && (r16.2 == (128 : Int))) && (r18 == (0 : Int))) && (r20.2 == (0 : Int))) && ((r20.1.len : Int) == (2 : Int))) && (x36 == (70 : Int))) && (x38 == (50 : Int))) && (r22.2 == (0 : Int))) && (x39 == (80 : Int))) && r27.2) && (x40 == (7 : Int))) && (r32 == (0 : Int)))) (d := (some 126)) rfl (.yes 62 124 true ((((((((((((((r6 == (0 : Int)) && (r10 == (0 : Int))) && (r14 == (0 : Int))) && (r16.2 == (128 : Int))) && (r18 == (0 : Int))) && (r20.2 == (0 : Int))) && ((r20.1.len : Int) == (2 : Int))) && (x36 == (70 : Int))) && (x38 == (50 : Int))) && (r22.2 == (0 : Int))) && (x39 == (80 : Int))) && r27.2) && (x40 == (7 : Int))) && (r32 == (0 : Int))) rfl rfl rfl rfl) rfl (fun hg => q_eql (a := r34.2) (b := (126 : Int)) rfl (gvb_yes hg) rfl) ?_
    refine ro_val (d := (some 127)) rfl (.free rfl) rfl (q_pickGT (a := ((((((((((((((r6 == (0 : Int)) && (r10 == (0 : Int))) && (r14 == (0 : Int))) && (r16.2 == (128 : Int))) && (r18 == (0 : Int))) && (r20.2 == (0 : Int))) && ((r20.1.len : Int) == (2 : Int))) && (x36 == (70 : Int))) && (x38 == (50 : Int))) && (r22.2 == (0 : Int))) && (x39 == (80 : Int))) && r27.2) && (x40 == (7 : Int))) && (r32 == (0 : Int)))) (b := (r34.2 == (126 : Int))) rfl rfl rfl rfl) ?_
    refine ro_val (d := (some 128)) rfl (.free rfl) rfl (q_move (v := .bool ((((((((((((((((r6 == (0 : Int)) && (r10 == (0 : Int))) && (r14 == (0 : Int))) && (r16.2 == (128 : Int))) && (r18 == (0 : Int))) && (r20.2 == (0 : Int))) && ((r20.1.len : Int) == (2 : Int))) && (x36 == (70 : Int))) && (x38 == (50 : Int))) && (r22.2 == (0 : Int))) && (x39 == (80 : Int))) && r27.2) && (x40 == (7 : Int))) && (r32 == (0 : Int))) && (r34.2 == (126 : Int))))) rfl rfl) ?_
    refine ro_join (σ := Bool) (J := fun (s : Bool) w => F10_j1 r2 s w R) (fr := fun g (s : Bool) => upd (upd (g) 1 (.pointer (r2))) 132 (.bool (s))) [67, 68, 69, 70] [71, 72, 73, 74, 75, 76, 77, 78, 79, 80, 81] ?_ ?_
    · rintro t_41 g w42 h
      unfold F10_j1 at h
      refine ro_val (d := (some 133)) rfl (.free rfl) rfl (q_move (v := .bool (t_41)) rfl rfl) ?_
      refine ro_join (σ := Bool) (J := fun (s : Bool) w => F10_j2 r2 s w R) (fr := fun g (s : Bool) => upd (upd (g) 1 (.pointer (r2))) 137 (.bool (s))) [72, 73, 74, 75] [76, 77, 78, 79, 80, 81] ?_ ?_
      · rintro t_43 g w44 h
        unfold F10_j2 at h
        refine ro_val (d := (some 138)) rfl (.free rfl) rfl (q_move (v := .bool (t_43)) rfl rfl) ?_
        refine ro_join (σ := Bool) (J := fun (s : Bool) w => F10_j3 s w R) (fr := fun g (s : Bool) => upd (g) 142 (.bool (s))) [77, 78, 79, 80] [81] ?_ ?_
        · rintro t_45 g w46 h
          unfold F10_j3 at h
          refine ro_val (d := (some 0)) rfl (.free rfl) rfl (q_assign (v := .bool (t_45)) rfl rfl) ?_
          refine ro_nil ?_
          refine wp_ret ?_
          exact ret_ok rfl (.cons (.tmp (v := .bool (t_45)) rfl) .nil) ⟨t_45, rfl, h⟩
        · refine ro_if (b := t_43) h (fun hb47 h => ?_) (fun hb47 h => ?_)
          · refine ro_val (d := (some 139)) rfl (.by_ 76 true 138 t_43 rfl rfl rfl hb47) rfl (q_move (v := .pointer (r2)) rfl rfl) ?_
            refine ro_wp rfl (.by_ 76 true 138 t_43 rfl rfl rfl hb47) (wp_cl (d := (some 140)) rfl (q_call (k := 16) (l := [.pointer (r2)]) rfl ent16 rfl) h ?_)
            intro r49 w48 h
            refine ro_val (d := (some 141)) rfl (.by_ 76 true 138 t_43 rfl rfl rfl hb47) rfl (q_eql (a := r49) (b := (9 : Int)) rfl rfl rfl) ?_
            refine ro_val (d := (some 142)) rfl (.free rfl) rfl (q_pickT (v := .bool ((r49 == (9 : Int)))) (b := t_43) rfl rfl hb47 rfl) ?_
            refine ro_nil ?_
            exact ⟨((r49 == (9 : Int))), _, arr (upd_step rfl rfl), h⟩
          · refine ro_bar (d := (some 139)) rfl (.by_ 76 true 138 t_43 rfl rfl rfl hb47) rfl ?_
            refine ro_bar (d := (some 140)) rfl (.by_ 76 true 138 t_43 rfl rfl rfl hb47) rfl ?_
            refine ro_bar (d := (some 141)) rfl (.by_ 76 true 138 t_43 rfl rfl rfl hb47) rfl ?_
            refine ro_val (d := (some 142)) rfl (.free rfl) rfl (q_pickF (v := .bool (false)) (b := t_43) rfl rfl hb47 rfl) ?_
            refine ro_nil ?_
            exact ⟨(false), _, arr (upd_step rfl rfl), h⟩
      · refine ro_if (b := t_41) h (fun hb50 h => ?_) (fun hb50 h => ?_)
        · refine ro_val (d := (some 134)) rfl (.by_ 71 true 133 t_41 rfl rfl rfl hb50) rfl (q_move (v := .pointer (r2)) rfl rfl) ?_
          refine ro_wp rfl (.by_ 71 true 133 t_41 rfl rfl rfl hb50) (wp_cl (d := (some 135)) rfl (q_call (k := 15) (l := [.pointer (r2)]) rfl ent15 rfl) h ?_)
          intro r52 w51 h
          refine ro_val (d := (some 136)) rfl (.by_ 71 true 133 t_41 rfl rfl rfl hb50) rfl (q_eql (a := r52) (b := (9 : Int)) rfl rfl rfl) ?_
          refine ro_val (d := (some 137)) rfl (.free rfl) rfl (q_pickT (v := .bool ((r52 == (9 : Int)))) (b := t_41) rfl rfl hb50 rfl) ?_
          refine ro_nil ?_
          exact ⟨((r52 == (9 : Int))), _, arr (upd_step (upd_step rfl rfl) rfl), h⟩
        · refine ro_bar (d := (some 134)) rfl (.by_ 71 true 133 t_41 rfl rfl rfl hb50) rfl ?_
          refine ro_bar (d := (some 135)) rfl (.by_ 71 true 133 t_41 rfl rfl rfl hb50) rfl ?_
          refine ro_bar (d := (some 136)) rfl (.by_ 71 true 133 t_41 rfl rfl rfl hb50) rfl ?_
          refine ro_val (d := (some 137)) rfl (.free rfl) rfl (q_pickF (v := .bool (false)) (b := t_41) rfl rfl hb50 rfl) ?_
          refine ro_nil ?_
          exact ⟨(false), _, arr (upd_step (upd_step rfl rfl) rfl), h⟩
    · refine ro_if (b := (((((((((((((((r6 == (0 : Int)) && (r10 == (0 : Int))) && (r14 == (0 : Int))) && (r16.2 == (128 : Int))) && (r18 == (0 : Int))) && (r20.2 == (0 : Int))) && ((r20.1.len : Int) == (2 : Int))) && (x36 == (70 : Int))) && (x38 == (50 : Int))) && (r22.2 == (0 : Int))) && (x39 == (80 : Int))) && r27.2) && (x40 == (7 : Int))) && (r32 == (0 : Int))) && (r34.2 == (126 : Int)))) h (fun hb53 h => ?_) (fun hb53 h => ?_)
      · refine ro_val (d := (some 129)) rfl (.by_ 66 true 128 (((((((((((((((r6 == (0 : Int)) && (r10 == (0 : Int))) && (r14 == (0 : Int))) && (r16.2 == (128 : Int))) && (r18 == (0 : Int))) && (r20.2 == (0 : Int))) && ((r20.1.len : Int) == (2 : Int))) && (x36 == (70 : Int))) && (x38 == (50 : Int))) && (r22.2 == (0 : Int))) && (x39 == (80 : Int))) && r27.2) && (x40 == (7 : Int))) && (r32 == (0 : Int))) && (r34.2 == (126 : Int))) rfl rfl rfl hb53) rfl (q_move (v := .pointer (r2)) rfl rfl) ?_
        refine ro_wp rfl (.by_ 66 true 128 (((((((((((((((r6 == (0 : Int)) && (r10 == (0 : Int))) && (r14 == (0 : Int))) && (r16.2 == (128 : Int))) && (r18 == (0 : Int))) && (r20.2 == (0 : Int))) && ((r20.1.len : Int) == (2 : Int))) && (x36 == (70 : Int))) && (x38 == (50 : Int))) && (r22.2 == (0 : Int))) && (x39 == (80 : Int))) && r27.2) && (x40 == (7 : Int))) && (r32 == (0 : Int))) && (r34.2 == (126 : Int))) rfl rfl rfl hb53) (wp_cl (d := (some 130)) rfl (q_call (k := 17) (l := [.pointer (r2)]) rfl ent17 rfl) h ?_)
        intro r55 w54 h
        refine ro_val (d := (some 131)) rfl (.by_ 66 true 128 (((((((((((((((r6 == (0 : Int)) && (r10 == (0 : Int))) && (r14 == (0 : Int))) && (r16.2 == (128 : Int))) && (r18 == (0 : Int))) && (r20.2 == (0 : Int))) && ((r20.1.len : Int) == (2 : Int))) && (x36 == (70 : Int))) && (x38 == (50 : Int))) && (r22.2 == (0 : Int))) && (x39 == (80 : Int))) && r27.2) && (x40 == (7 : Int))) && (r32 == (0 : Int))) && (r34.2 == (126 : Int))) rfl rfl rfl hb53) rfl (q_eql (a := r55) (b := (2 : Int)) rfl rfl rfl) ?_
        refine ro_val (d := (some 132)) rfl (.free rfl) rfl (q_pickT (v := .bool ((r55 == (2 : Int)))) (b := (((((((((((((((r6 == (0 : Int)) && (r10 == (0 : Int))) && (r14 == (0 : Int))) && (r16.2 == (128 : Int))) && (r18 == (0 : Int))) && (r20.2 == (0 : Int))) && ((r20.1.len : Int) == (2 : Int))) && (x36 == (70 : Int))) && (x38 == (50 : Int))) && (r22.2 == (0 : Int))) && (x39 == (80 : Int))) && r27.2) && (x40 == (7 : Int))) && (r32 == (0 : Int))) && (r34.2 == (126 : Int)))) rfl rfl hb53 rfl) ?_
        refine ro_nil ?_
        exact ⟨((r55 == (2 : Int))), _, arr (upd_step (upd_step rfl rfl) rfl), h⟩
      · refine ro_bar (d := (some 129)) rfl (.by_ 66 true 128 (((((((((((((((r6 == (0 : Int)) && (r10 == (0 : Int))) && (r14 == (0 : Int))) && (r16.2 == (128 : Int))) && (r18 == (0 : Int))) && (r20.2 == (0 : Int))) && ((r20.1.len : Int) == (2 : Int))) && (x36 == (70 : Int))) && (x38 == (50 : Int))) && (r22.2 == (0 : Int))) && (x39 == (80 : Int))) && r27.2) && (x40 == (7 : Int))) && (r32 == (0 : Int))) && (r34.2 == (126 : Int))) rfl rfl rfl hb53) rfl ?_
        refine ro_bar (d := (some 130)) rfl (.by_ 66 true 128 (((((((((((((((r6 == (0 : Int)) && (r10 == (0 : Int))) && (r14 == (0 : Int))) && (r16.2 == (128 : Int))) && (r18 == (0 : Int))) && (r20.2 == (0 : Int))) && ((r20.1.len : Int) == (2 : Int))) && (x36 == (70 : Int))) && (x38 == (50 : Int))) && (r22.2 == (0 : Int))) && (x39 == (80 : Int))) && r27.2) && (x40 == (7 : Int))) && (r32 == (0 : Int))) && (r34.2 == (126 : Int))) rfl rfl rfl hb53) rfl ?_
        refine ro_bar (d := (some 131)) rfl (.by_ 66 true 128 (((((((((((((((r6 == (0 : Int)) && (r10 == (0 : Int))) && (r14 == (0 : Int))) && (r16.2 == (128 : Int))) && (r18 == (0 : Int))) && (r20.2 == (0 : Int))) && ((r20.1.len : Int) == (2 : Int))) && (x36 == (70 : Int))) && (x38 == (50 : Int))) && (r22.2 == (0 : Int))) && (x39 == (80 : Int))) && r27.2) && (x40 == (7 : Int))) && (r32 == (0 : Int))) && (r34.2 == (126 : Int))) rfl rfl rfl hb53) rfl ?_
        refine ro_val (d := (some 132)) rfl (.free rfl) rfl (q_pickF (v := .bool (false)) (b := (((((((((((((((r6 == (0 : Int)) && (r10 == (0 : Int))) && (r14 == (0 : Int))) && (r16.2 == (128 : Int))) && (r18 == (0 : Int))) && (r20.2 == (0 : Int))) && ((r20.1.len : Int) == (2 : Int))) && (x36 == (70 : Int))) && (x38 == (50 : Int))) && (r22.2 == (0 : Int))) && (x39 == (80 : Int))) && r27.2) && (x40 == (7 : Int))) && (r32 == (0 : Int))) && (r34.2 == (126 : Int)))) rfl rfl hb53 rfl) ?_
        refine ro_nil ?_
        exact ⟨(false), _, arr (upd_step (upd_step rfl rfl) rfl), h⟩

end Go.Proofs.Ytdgdkbfigndndaa.Cf
