/- Own texts of this claim, part 2: short, merged. -/
import Derived.Test.YtehclfjjjiiieaaGreatZ1
namespace Go.Proofs.YtehclfjjjiiieaaGreat.Cf
open Go
set_option maxRecDepth 100000
set_option maxHeartbeats 1000000
set_option linter.unusedVariables false
set_option linter.unusedSimpArgs false
def F64 (f_1 : Nat) (w : World) (R : Int → World → Prop) : Prop :=
 if (fcmp .neq f_1 f_1) = true then (
  R (0 : Int) w
 ) else (
  if ((f_1 : Int) == (0 : Int)) = true then (
   R (4 : Int) w
  ) else (
   if ((f_1 : Int) == (9223372036854775808 : Int)) = true then (
    R (3 : Int) w
   ) else (
    cl Tryz.prog 105 [.float .f64 (f_1), .int .i64 ((-1 : Int))] tBool w fun r3 w2 =>
    if r3 = true then (
     R (1 : Int) w2
    ) else (
     cl Tryz.prog 105 [.float .f64 (f_1), .int .i64 ((1 : Int))] tBool w2 fun r5 w4 =>
     if r5 = true then (
      R (6 : Int) w4
     ) else (
      if (fcmp .lss f_1 (0 : Nat)) = true then (
       R (2 : Int) w4
      ) else (
       R (5 : Int) w4
      )
     )
    )
   )
  )
 )
theorem F64_ok {f_1 : Nat} {w : World} {R : Int → World → Prop} (h : F64 f_1 w R) : cl Tryz.prog 64 [.float .f64 (f_1)] (tInt .i64) w R := by
 unfold F64 at h
 refine calls_start 25 Tryz.func64 rfl rfl (Nat.le_of_ble_eq_true rfl) <| wp_seq <| wp_text [0] rfl <| za 2 (.int .i64 ((0 : Int))) rfl rfl <| ro_nil <| wp_seq <| wp_text [0, 1, 2] rfl <| zm 4 (.float .f64 (f_1)) rfl rfl <| rv 5 rfl rfl rfl (q_f64bits (b := f_1) rfl ext102 rfl) <| za 3 (.int .u64 ((f_1 : Int))) rfl rfl <| ro_nil <| wp_seq ?_
 refine wp_block <| wp_seq <| wp_text [0, 1, 2, 3] rfl <| zm 7 (.float .f64 (f_1)) rfl rfl <| zm 8 (.float .f64 (f_1)) rfl rfl <| rv 9 rfl rfl rfl (q_fcmp (op := .neq) (a := f_1) (b := f_1) rfl (by decide) rfl rfl) <| za 6 (.bool ((fcmp .neq f_1 f_1))) rfl rfl <| ro_nil <| zi h rfl (fun _ h => ?_) fun _ h => ?_
 ·refine wp_seq <| wp_text [0] rfl <| za 2 (.int .i64 ((0 : Int))) rfl rfl <| ro_nil <| wp_ret ?_
  exact zr1 h rfl rfl
 ·refine wp_seq <| wp_text [0, 1, 2] rfl <| zm 11 (.int .u64 ((f_1 : Int))) rfl rfl <| rv 12 rfl rfl rfl (q_eql (a := (f_1 : Int)) (b := (0 : Int)) rfl rfl rfl) <| za 10 (.bool (((f_1 : Int) == (0 : Int)))) rfl rfl <| ro_nil <| zi h rfl (fun _ h => ?_) fun _ h => ?_
  ·refine wp_seq <| wp_text [0] rfl <| za 2 (.int .i64 ((4 : Int))) rfl rfl <| ro_nil <| wp_ret ?_
   exact zr1 h rfl rfl
  ·refine wp_seq <| wp_text [0, 1, 2] rfl <| zm 14 (.int .u64 ((f_1 : Int))) rfl rfl <| rv 15 rfl rfl rfl (q_eql (a := (f_1 : Int)) (b := (9223372036854775808 : Int)) rfl rfl rfl) <| za 13 (.bool (((f_1 : Int) == (9223372036854775808 : Int)))) rfl rfl <| ro_nil <| zi h rfl (fun _ h => ?_) fun _ h => ?_
   ·refine wp_seq <| wp_text [0] rfl <| za 2 (.int .i64 ((3 : Int))) rfl rfl <| ro_nil <| wp_ret ?_
    exact zr1 h rfl rfl
   ·refine wp_seq <| wp_text [0, 1, 2] rfl <| zm 17 (.float .f64 (f_1)) rfl rfl <| zc ent105 rfl rfl h fun r3 w2 h => za 16 (.bool (r3)) rfl rfl <| ro_nil <| zi h rfl (fun _ h => ?_) fun _ h => ?_
    ·refine wp_seq <| wp_text [0] rfl <| za 2 (.int .i64 ((1 : Int))) rfl rfl <| ro_nil <| wp_ret ?_
     exact zr1 h rfl rfl
    ·refine wp_seq <| wp_text [0, 1, 2] rfl <| zm 20 (.float .f64 (f_1)) rfl rfl <| zc ent105 rfl rfl h fun r5 w4 h => za 19 (.bool (r5)) rfl rfl <| ro_nil <| zi h rfl (fun _ h => ?_) fun _ h => ?_
     ·refine wp_seq <| wp_text [0] rfl <| za 2 (.int .i64 ((6 : Int))) rfl rfl <| ro_nil <| wp_ret ?_
      exact zr1 h rfl rfl
     ·refine wp_seq <| wp_text [0, 1, 2] rfl <| zm 23 (.float .f64 (f_1)) rfl rfl <| rv 24 rfl rfl rfl (q_fcmp (op := .lss) (a := f_1) (b := (0 : Nat)) rfl (by decide) rfl rfl) <| za 22 (.bool ((fcmp .lss f_1 (0 : Nat)))) rfl rfl <| ro_nil <| zi h rfl (fun _ h => ?_) fun _ h => ?_
      ·refine wp_seq <| wp_text [0] rfl <| za 2 (.int .i64 ((2 : Int))) rfl rfl <| ro_nil <| wp_ret ?_
       exact zr1 h rfl rfl
      ·refine wp_skip <| wp_seq <| wp_text [0] rfl <| za 2 (.int .i64 ((5 : Int))) rfl rfl <| ro_nil <| wp_ret ?_
       exact zr1 h rfl rfl
def F65 (a_1 : Nat) (b_2 : Nat) (w : World) (R : Int → World → Prop) : Prop :=
 cl Tryz.prog 106 [.float .f64 (a_1)] (tInt .u64) w fun r4 w3 =>
 cl Tryz.prog 106 [.float .f64 (b_2)] (tInt .u64) w3 fun r6 w5 =>
 if (decide (r4 < r6)) = true then (
  R (-1 : Int) w5
 ) else (
  if (decide (r4 > r6)) = true then (
   R (1 : Int) w5
  ) else (
   R (0 : Int) w5
  )
 )
theorem F65_ok {a_1 : Nat} {b_2 : Nat} {w : World} {R : Int → World → Prop} (h : F65 a_1 b_2 w R) : cl Tryz.prog 65 [.float .f64 (a_1), .float .f64 (b_2)] (tInt .i64) w R := by
 unfold F65 at h
 refine calls_start 19 Tryz.func65 rfl rfl (Nat.le_of_ble_eq_true rfl) <| wp_seq <| wp_text [0] rfl <| za 4 (.int .i64 ((0 : Int))) rfl rfl <| ro_nil <| wp_seq <| wp_text [0, 1, 2, 3, 4, 5] rfl <| zm 7 (.float .f64 (a_1)) rfl rfl <| zc ent106 rfl rfl h fun r4 w3 h => zm 9 (.float .f64 (b_2)) rfl rfl <| zc ent106 rfl rfl h fun r6 w5 h => za 5 (.int .u64 (r4)) rfl rfl ?_
 refine za 6 (.int .u64 (r6)) rfl rfl <| ro_nil <| wp_seq <| wp_block <| wp_seq <| wp_text [0, 1, 2, 3] rfl <| zm 12 (.int .u64 (r4)) rfl rfl <| zm 13 (.int .u64 (r6)) rfl rfl <| rv 14 rfl rfl rfl (q_lss (a := r4) (b := r6) rfl rfl rfl) <| za 11 (.bool ((decide (r4 < r6)))) rfl rfl <| ro_nil <| zi h rfl (fun _ h => ?_) fun _ h => ?_
 ·refine wp_seq <| wp_text [0] rfl <| za 4 (.int .i64 ((-1 : Int))) rfl rfl <| ro_nil <| wp_ret ?_
  exact zr1 h rfl rfl
 ·refine wp_seq <| wp_text [0, 1, 2, 3] rfl <| zm 16 (.int .u64 (r4)) rfl rfl <| zm 17 (.int .u64 (r6)) rfl rfl <| rv 18 rfl rfl rfl (q_gtr (a := r4) (b := r6) rfl rfl rfl) <| za 15 (.bool ((decide (r4 > r6)))) rfl rfl <| ro_nil <| zi h rfl (fun _ h => ?_) fun _ h => ?_
  ·refine wp_seq <| wp_text [0] rfl <| za 4 (.int .i64 ((1 : Int))) rfl rfl <| ro_nil <| wp_ret ?_
   exact zr1 h rfl rfl
  ·refine wp_skip <| wp_seq <| wp_text [0] rfl <| za 4 (.int .i64 ((0 : Int))) rfl rfl <| ro_nil <| wp_ret ?_
   exact zr1 h rfl rfl
def F66 (d_1 : (Option Addr)) (n_2 : Int) (w : World) (R : (Slc × Int) → World → Prop) : Prop :=
 cl Tryz.prog 107 [.pointer (d_1), .int .i64 (n_2)] tBool w fun r4 w3 =>
 if (!r4) = true then (
  R ((⟨none, 0, 0⟩ : Slc), (70 : Int)) w3
 ) else (
  ex (NC d_1) fun a5 =>
  ex (RdAt tBool (a5.add 2) w3) fun x6 =>
  if x6 = true then (
   R ((⟨none, 0, 0⟩ : Slc), (71 : Int)) w3
  ) else (
   ex (RdAt tSlc (a5.add 0) w3) fun x7 =>
   ex (IxA x7 2 n_2) fun a8 =>
   ex (RdAt tSlc (a8.add 0) w3) fun x9 =>
   mkS 5 (tInt .u8) 1 (0 : Int) (x9.len : Int) (x9.len : Int) w3 fun r11 w10 =>
   ex (RdAt tSlc (a5.add 0) w10) fun x12 =>
   ex (IxA x12 2 n_2) fun a13 =>
   ex (RdAt tSlc (a13.add 0) w10) fun x14 =>
   cpy (tInt .u8) 1 r11 x14 w10 fun r16 w15 =>
   R (r11, (0 : Int)) w15
  )
 )
theorem F66_ok {d_1 : (Option Addr)} {n_2 : Int} {w : World} {R : (Slc × Int) → World → Prop} (h : F66 d_1 n_2 w R) : cl Tryz.prog 66 [.pointer (d_1), .int .i64 (n_2)] (tTup2 tSlc (tInt .i64)) w R := by
 unfold F66 at h
 refine calls_start 38 Tryz.func66 rfl rfl (Nat.le_of_ble_eq_true rfl) <| wp_seq <| wp_text [0, 1] rfl <| za 4 (tSlc.enc ((⟨none, 0, 0⟩ : Slc))) rfl rfl <| za 5 (.int .i64 ((0 : Int))) rfl rfl <| ro_nil <| wp_seq <| wp_block <| wp_seq <| wp_text [0, 1, 2, 3, 4] rfl <| zm 8 (.pointer (d_1)) rfl rfl <| zm 9 (.int .i64 (n_2)) rfl rfl ?_
 refine zc ent107 rfl rfl h fun r4 w3 h => rv 11 rfl rfl rfl (q_not (b := r4) rfl rfl) <| za 7 (.bool ((!r4))) rfl rfl <| ro_nil <| zi h rfl (fun _ h => ?_) fun _ h => ?_
 ·refine wp_seq <| wp_text [0, 1] rfl <| za 4 (tSlc.enc ((⟨none, 0, 0⟩ : Slc))) rfl rfl <| za 5 (.int .i64 ((70 : Int))) rfl rfl <| ro_nil <| wp_ret ?_
  exact zr2 h rfl rfl
 ·refine wp_seq <| wp_text [0, 1, 2, 3, 4] rfl <| zm 13 (.pointer (d_1)) rfl rfl ?_
  obtain ⟨a5, ha5, h⟩ := h
  refine zn 14 ha5 rfl rfl <| zf 15 a5 2 Tryz.underlying77 ok4 rfl rfl rfl ?_
  obtain ⟨x6, hx6, h⟩ := h
  refine zl 16 hx6 ok4 rfl rfl <| za 12 (.bool (x6)) rfl rfl <| ro_nil <| zi h rfl (fun _ h => ?_) fun _ h => ?_
  ·refine wp_seq <| wp_text [0, 1] rfl <| za 4 (tSlc.enc ((⟨none, 0, 0⟩ : Slc))) rfl rfl <| za 5 (.int .i64 ((71 : Int))) rfl rfl <| ro_nil <| wp_ret ?_
   exact zr2 h rfl rfl
  ·refine wp_skip <| wp_seq <| wp_text [0, 1, 2, 3, 4, 5, 6, 7, 8, 9, 10] rfl <| zm 17 (.pointer (d_1)) rfl rfl <| zn 18 ha5 rfl rfl <| zf 19 a5 0 Tryz.underlying77 ok75 rfl rfl rfl ?_
   obtain ⟨x7, hx7, h⟩ := h
   refine zl 20 hx7 ok75 rfl rfl <| zm 21 (.int .i64 (n_2)) rfl rfl ?_
   obtain ⟨a8, ha8, h⟩ := h
   refine rv 22 rfl rfl rfl (q_indexAddr (s := x7) (k := .i64) (i := n_2) rfl Tryz.underlying75 ok93 rfl rfl ha8) <| zf 23 a8 0 Tryz.underlying93 ok25 rfl rfl rfl ?_
   obtain ⟨x9, hx9, h⟩ := h
   refine zl 24 hx9 ok25 rfl rfl <| rv 25 rfl rfl rfl (q_len (s := x9) rfl Tryz.underlying25 rfl) <| ro_wp rfl (.free rfl) (wp_mkS (T := (tInt .u8)) (z := (0 : Int)) (l := (x9.len : Int)) (c := (x9.len : Int)) (d := (some 26)) rfl rfl Tryz.underlying25 ok5 inf5 rfl rfl h ?_)
   intro r11 w10 h
   refine za 6 (tSlc.enc (r11)) rfl rfl <| ro_nil <| wp_seq <| wp_text [0, 1, 2, 3, 4, 5, 6, 7, 8, 9] rfl <| zm 27 (tSlc.enc (r11)) rfl rfl <| zm 28 (.pointer (d_1)) rfl rfl <| zn 29 ha5 rfl rfl <| zf 30 a5 0 Tryz.underlying77 ok75 rfl rfl rfl ?_
   obtain ⟨x12, hx12, h⟩ := h
   refine zl 31 hx12 ok75 rfl rfl <| zm 32 (.int .i64 (n_2)) rfl rfl ?_
   obtain ⟨a13, ha13, h⟩ := h
   refine rv 33 rfl rfl rfl (q_indexAddr (s := x12) (k := .i64) (i := n_2) rfl Tryz.underlying75 ok93 rfl rfl ha13) <| zf 34 a13 0 Tryz.underlying93 ok25 rfl rfl rfl ?_
   obtain ⟨x14, hx14, h⟩ := h
   refine zl 35 hx14 ok25 rfl rfl <| ro_wp rfl (.free rfl) (wp_cpy (T := (tInt .u8)) (s := r11) (b := x14) (d := (some 36)) rfl rfl Tryz.underlying25 ok5 rfl rfl h ?_)
   intro r16 w15 h
   refine ro_nil <| wp_seq <| wp_text [0, 1, 2] rfl <| zm 37 (tSlc.enc (r11)) rfl rfl <| za 4 (tSlc.enc (r11)) rfl rfl <| za 5 (.int .i64 ((0 : Int))) rfl rfl <| ro_nil <| wp_ret ?_
   exact zr2 h rfl rfl
def F67_l1 (b_1 : Slc) (l_2 : Slc) (at_3 : Int) (w4 : World) (K5 : Slc × Int → World → Prop) (R : (Slc × Int) → World → Prop) : Prop :=
 ex (Sub b_1 1 at_3 ((b_1).len : Int) ((b_1).cap : Int)) fun s6 =>
 cl Tryz.prog 108 [tSlc.enc (s6)] (tTup3 tSlc (tInt .i64) (tInt .i64)) w4 fun r8 w7 =>
 if (r8.2.2 != (0 : Int)) = true then (
  R (l_2, at_3) w7
 ) else (
  apl 25 tSlc 1 24 l_2 [r8.1] w7 fun r12 w11 =>
  K5 (r12, (IntKind.i64.wrap (at_3 + r8.2.1))) w11
 )
def F67 (b_1 : Slc) (w : World) (R : (Slc × Int) → World → Prop) : Prop :=
 lp (fun (s : Slc × Int) w K => F67_l1 b_1 s.1 s.2 w K R) ((⟨none, 0, 0⟩ : Slc), (0 : Int)) w
theorem F67_ok {b_1 : Slc} {w : World} {R : (Slc × Int) → World → Prop} (h : F67 b_1 w R) : cl Tryz.prog 67 [tSlc.enc (b_1)] (tTup2 tSlc (tInt .i64)) w R := by
 unfold F67 at h
 refine calls_start 28 Tryz.func67 rfl rfl (Nat.le_of_ble_eq_true rfl) <| wp_seq <| wp_text [0, 1] rfl <| za 2 (tSlc.enc ((⟨none, 0, 0⟩ : Slc))) rfl rfl <| za 3 (.int .i64 ((0 : Int))) rfl rfl <| ro_nil <| wp_seq <| wp_text [0] rfl <| za 4 (tSlc.enc ((⟨none, 0, 0⟩ : Slc))) rfl rfl <| ro_nil <| wp_seq <| wp_text [0] rfl ?_
 refine za 5 (.int .i64 ((0 : Int))) rfl rfl <| ro_nil <| wp_block <| loop_at (σ := Slc × Int) (fr := fun g (s : Slc × Int) => upd (upd (upd (g) 0 (tSlc.enc (b_1))) 4 (tSlc.enc (s.1))) 5 (.int .i64 (s.2))) (s0 := ((⟨none, 0, 0⟩ : Slc), (0 : Int))) (upd_step (upd_step (upd_step rfl rfl) rfl) rfl) h ?_
 rintro ⟨l_2, at_3⟩ g w4 K5 h
 unfold F67_l1 at h
 refine wp_block <| wp_seq <| wp_text [0, 1, 2, 3, 4, 5, 6, 7, 8, 9, 10] rfl <| zm 10 (tSlc.enc (b_1)) rfl rfl <| zm 11 (.int .i64 (at_3)) rfl rfl ?_
 obtain ⟨s6, hs6, h⟩ := h
 refine rv 12 rfl rfl rfl (q_sliceL (s := b_1) (l := at_3) rfl Tryz.underlying25 ok5 rfl rfl hs6) <| zc ent108 rfl rfl h fun r8 w7 h => zm 9 ((tTup3 tSlc (tInt .i64) (tInt .i64)).enc (r8)) rfl rfl <| ze 14 (tSlc.enc (r8.1)) rfl rfl rfl <| ze 15 (.int .i64 (r8.2.1)) rfl rfl rfl <| ze 16 (.int .i64 (r8.2.2)) rfl rfl rfl <| za 6 (tSlc.enc (r8.1)) rfl rfl <| za 7 (.int .i64 (r8.2.1)) rfl rfl <| za 8 (.int .i64 (r8.2.2)) rfl rfl <| ro_nil <| wp_seq <| wp_seq ?_
 refine wp_text [0, 1] rfl <| zm 17 (.int .i64 (r8.2.2)) rfl rfl <| rv 18 rfl rfl rfl (q_neq (a := r8.2.2) (b := (0 : Int)) rfl rfl rfl) <| ro_nil <| zi h rfl (fun _ h => ?_) fun _ h => ?_
 ·refine wp_seq <| wp_text [0, 1, 2, 3] rfl <| zm 19 (tSlc.enc (l_2)) rfl rfl <| zm 20 (.int .i64 (at_3)) rfl rfl <| za 2 (tSlc.enc (l_2)) rfl rfl <| za 3 (.int .i64 (at_3)) rfl rfl <| ro_nil <| wp_ret ?_
  exact zr2 h rfl rfl
 ·refine wp_skip <| wp_text [0, 1, 2, 3, 4, 5, 6, 7, 8] rfl <| zm 21 (tSlc.enc (l_2)) rfl rfl <| zm 22 (tSlc.enc (r8.1)) rfl rfl ?_
  obtain ⟨a9, w10, ha9, hw10, h⟩ := apl_open h
  refine rv 23 rfl rfl rfl (q_rowOf (T := tSlc) (xs := [r8.1]) rfl Tryz.underlying79 ok25 inf25 rfl (by decide) (by decide) rfl ha9 hw10) <| ro_wp rfl (.free rfl) (wp_append (d := (some 24)) (T := tSlc) rfl rfl Tryz.underlying79 ⟨_, Tryz.underlying79⟩ ok25 inf25 rfl rfl (Nat.lt_of_lt_of_le Nat.zero_lt_one (Nat.le_of_ble_eq_true rfl)) rfl rfl h ?_)
  intro r12 w11 h
  refine zm 25 (.int .i64 (at_3)) rfl rfl <| zm 26 (.int .i64 (r8.2.1)) rfl rfl <| rv 27 rfl rfl rfl (q_add (a := at_3) (b := r8.2.1) rfl rfl rfl) <| za 4 (tSlc.enc (r12)) rfl rfl <| za 5 (.int .i64 ((IntKind.i64.wrap (at_3 + r8.2.1)))) rfl rfl <| ro_nil ?_
  exact ⟨(r12, (IntKind.i64.wrap (at_3 + r8.2.1))), _, arr (upd_step (upd_step (upd_step rfl rfl) rfl) rfl), h⟩
def F68 (d_1 : (Option Addr)) (n_2 : Int) (b_3 : Slc) (w : World) (R : Int → World → Prop) : Prop :=
 nw 25 tSlc b_3 w fun a4 w5 =>
 ex (RdAt tSlc a4 w5) fun x6 =>
 cl Tryz.prog 74 [.pointer (d_1), .int .i64 (n_2), .int .i64 ((x6.len : Int)), ((Fv.mk (.func 109) (List.toArray []) (List.toArray [.pointer (some a4)]))).enc] (tInt .i64) w5 fun r8 w7 =>
 R r8 w7
theorem F68_ok {d_1 : (Option Addr)} {n_2 : Int} {b_3 : Slc} {w : World} {R : Int → World → Prop} (h : F68 d_1 n_2 b_3 w R) : cl Tryz.prog 68 [.pointer (d_1), .int .i64 (n_2), tSlc.enc (b_3)] (tInt .i64) w R := by
 unfold F68 at h
 refine calls_start 13 Tryz.func68 rfl rfl (Nat.le_of_ble_eq_true rfl) <| wp_seq <| wp_text [0, 1] rfl ?_
 obtain ⟨a4, w5, ha4, hw5, h⟩ := nw_open h
 refine rv 5 rfl rfl rfl (q_box (u := b_3) rfl ok25 rfl ha4 hw5) <| za 6 (.int .i64 ((0 : Int))) rfl rfl <| ro_nil <| wp_seq <| wp_text [0, 1, 2, 3, 4, 5, 6] rfl <| zm 7 (.pointer (d_1)) rfl rfl <| zm 8 (.int .i64 (n_2)) rfl rfl ?_
 obtain ⟨x6, hx6, h⟩ := h
 refine zl 9 hx6 ok25 rfl rfl <| rv 10 rfl rfl rfl (q_len (s := x6) rfl Tryz.underlying25 rfl) <| rv 11 rfl rfl rfl (q_makeFunc (fn := .func 109) (va := []) (vc := [.pointer (some a4)]) rfl rfl rfl) <| zc ent74 rfl rfl h fun r8 w7 h => za 6 (.int .i64 (r8)) rfl rfl <| ro_nil <| wp_ret ?_
 exact zr1 h rfl rfl
def F69 (d_1 : (Option Addr)) (n_2 : Int) (w : World) (R : Int → World → Prop) : Prop :=
 cl Tryz.prog 107 [.pointer (d_1), .int .i64 (n_2)] tBool w fun r4 w3 =>
 if (!r4) = true then (
  R (0 : Int) w3
 ) else (
  ex (NC d_1) fun a5 =>
  ex (RdAt tSlc (a5.add 0) w3) fun x6 =>
  ex (IxA x6 2 n_2) fun a7 =>
  ex (RdAt (tInt .i64) (a7.add 1) w3) fun x8 =>
  R x8 w3
 )
theorem F69_ok {d_1 : (Option Addr)} {n_2 : Int} {w : World} {R : Int → World → Prop} (h : F69 d_1 n_2 w R) : cl Tryz.prog 69 [.pointer (d_1), .int .i64 (n_2)] (tInt .i64) w R := by
 unfold F69 at h
 refine calls_start 17 Tryz.func69 rfl rfl (Nat.le_of_ble_eq_true rfl) <| wp_seq <| wp_text [0] rfl <| za 4 (.int .i64 ((0 : Int))) rfl rfl <| ro_nil <| wp_seq <| wp_seq <| wp_text [0, 1, 2, 3] rfl <| zm 5 (.pointer (d_1)) rfl rfl <| zm 6 (.int .i64 (n_2)) rfl rfl <| zc ent107 rfl rfl h fun r4 w3 h => rv 8 rfl rfl rfl (q_not (b := r4) rfl rfl) ?_
 refine ro_nil <| zi h rfl (fun _ h => ?_) fun _ h => ?_
 ·refine wp_seq <| wp_text [0] rfl <| za 4 (.int .i64 ((0 : Int))) rfl rfl <| ro_nil <| wp_ret ?_
  exact zr1 h rfl rfl
 ·refine wp_skip <| wp_seq <| wp_text [0, 1, 2, 3, 4, 5, 6, 7, 8] rfl <| zm 9 (.pointer (d_1)) rfl rfl ?_
  obtain ⟨a5, ha5, h⟩ := h
  refine zn 10 ha5 rfl rfl <| zf 11 a5 0 Tryz.underlying77 ok75 rfl rfl rfl ?_
  obtain ⟨x6, hx6, h⟩ := h
  refine zl 12 hx6 ok75 rfl rfl <| zm 13 (.int .i64 (n_2)) rfl rfl ?_
  obtain ⟨a7, ha7, h⟩ := h
  refine rv 14 rfl rfl rfl (q_indexAddr (s := x6) (k := .i64) (i := n_2) rfl Tryz.underlying75 ok93 rfl rfl ha7) <| zf 15 a7 1 Tryz.underlying93 ok3 rfl rfl rfl ?_
  obtain ⟨x8, hx8, h⟩ := h
  refine zl 16 hx8 ok3 rfl rfl <| za 4 (.int .i64 (x8)) rfl rfl <| ro_nil <| wp_ret ?_
  exact zr1 h rfl rfl
def F70 (w : World) (R : (Option Addr) → World → Prop) : Prop :=
 nwMap w fun m2 w1 =>
 nw 169 T168 (⟨(some m2), (0 : Int), (0 : Int)⟩ : S168) w1 fun a3 w4 =>
 R (some a3) w4
theorem F70_ok {w : World} {R : (Option Addr) → World → Prop} (h : F70 w R) : cl Tryz.prog 70 [] tPtr w R := by
 unfold F70 at h
 refine calls_start 4 Tryz.func70 rfl rfl (Nat.le_of_ble_eq_true rfl) <| wp_seq <| wp_text [0] rfl <| za 0 (.pointer ((none : Option Addr))) rfl rfl <| ro_nil <| wp_seq <| wp_text [0, 1, 2, 3] rfl ?_
 obtain ⟨m2, w1, hm2, hw1, h⟩ := nwMap_open h
 refine rv 1 rfl rfl rfl (q_makeMap rfl hm2 hw1) <| rv 2 rfl rfl rfl (q_build169_0 (v0 := (some m2)) rfl rfl) ?_
 obtain ⟨a3, w4, ha3, hw4, h⟩ := nw_open h
 refine rv 3 rfl rfl rfl (q_box (u := (⟨(some m2), (0 : Int), (0 : Int)⟩ : S168)) rfl ok169 rfl ha3 hw4) <| za 0 (.pointer (some a3)) rfl rfl <| ro_nil <| wp_ret ?_
 exact zr1 h rfl rfl
end Go.Proofs.YtehclfjjjiiieaaGreat.Cf
namespace Go.Proofs.YtehclfjjjiiieaaGreat.Cf
open Go
set_option maxRecDepth 100000
set_option maxHeartbeats 1000000
set_option linter.unusedVariables false
set_option linter.unusedSimpArgs false
def F71_j1 (s_1 : (Option Addr)) (k_2 : Int) (drop_3 : Addr) (shut_4 : Addr) (prune_5 : Addr) (w6 : World) (R : Fv → World → Prop) : Prop :=
 if (k_2 == (3 : Int)) = true then (
  ex (NC s_1) fun a7 =>
  ex (RdAt tPtr (a7.add 1) w6) fun x8 =>
  R (Fv.mk (.func 47) (List.toArray [.pointer (x8)]) (List.toArray [])) w6
 ) else (
  if (k_2 == (4 : Int)) = true then (
   R (Fv.mk (.func 110) (List.toArray []) (List.toArray [.pointer (some drop_3)])) w6
  ) else (
   if (k_2 == (5 : Int)) = true then (
    R (Fv.mk (.func 111) (List.toArray []) (List.toArray [.pointer (some shut_4)])) w6
   ) else (
    R (Fv.mk (.func 112) (List.toArray []) (List.toArray [.pointer (some prune_5)])) w6
   )
  )
 )
def F71 (s_1 : (Option Addr)) (k_2 : Int) (w : World) (R : Fv → World → Prop) : Prop :=
 dr w fun w12 =>
 ex (NC s_1) fun a13 =>
 ex (RdAt tPtr (a13.add 1) w12) fun x14 =>
 ex (RdAt tPtr (a13.add 1) w12) fun x15 =>
 ex (RdAt tPtr (a13.add 1) w12) fun x16 =>
 bth (
  nw 90 tFun Fv.nil w12 fun a17 w18 =>
  bth (
   nw 116 tFun Fv.nil w18 fun a19 w20 =>
   nw 116 tFun Fv.nil w20 fun a21 w22 =>
   st tFun a17 (Fv.mk (.func 48) (List.toArray [.pointer (x14)]) (List.toArray [])) w22 fun w23 =>
   kp ((RdAt tPtr (a13.add 1) w23) x15) <|
   kp ((RdAt tPtr (a13.add 1) w23) x16) <|
   st tFun a19 (Fv.mk (.func 49) (List.toArray [.pointer (x15)]) (List.toArray [])) w23 fun w26 =>
   kp ((RdAt tPtr (a13.add 1) w26) x16) <|
   st tFun a21 (Fv.mk (.func 50) (List.toArray [.pointer (x16)]) (List.toArray [])) w26 fun w28 =>
   F71_j1 s_1 k_2 a17 a19 a21 w28 R
  ) (
   nw 116 tFun Fv.nil w18 fun a29 w30 =>
   nw 116 tFun Fv.nil w30 fun a31 w32 =>
   st tFun a17 (Fv.mk (.func 48) (List.toArray [.pointer (x14)]) (List.toArray [])) w32 fun w33 =>
   kp ((RdAt tPtr (a13.add 1) w33) x15) <|
   kp ((RdAt tPtr (a13.add 1) w33) x16) <|
   st tFun a31 (Fv.mk (.func 49) (List.toArray [.pointer (x15)]) (List.toArray [])) w33 fun w36 =>
   kp ((RdAt tPtr (a13.add 1) w36) x16) <|
   st tFun a29 (Fv.mk (.func 50) (List.toArray [.pointer (x16)]) (List.toArray [])) w36 fun w38 =>
   F71_j1 s_1 k_2 a17 a31 a29 w38 R
  )
 ) (
 bth (
  nw 116 tFun Fv.nil w12 fun a39 w40 =>
  bth (
   nw 90 tFun Fv.nil w40 fun a41 w42 =>
   nw 116 tFun Fv.nil w42 fun a43 w44 =>
   st tFun a41 (Fv.mk (.func 48) (List.toArray [.pointer (x14)]) (List.toArray [])) w44 fun w45 =>
   kp ((RdAt tPtr (a13.add 1) w45) x15) <|
   kp ((RdAt tPtr (a13.add 1) w45) x16) <|
   st tFun a39 (Fv.mk (.func 49) (List.toArray [.pointer (x15)]) (List.toArray [])) w45 fun w48 =>
   kp ((RdAt tPtr (a13.add 1) w48) x16) <|
   st tFun a43 (Fv.mk (.func 50) (List.toArray [.pointer (x16)]) (List.toArray [])) w48 fun w50 =>
   F71_j1 s_1 k_2 a41 a39 a43 w50 R
  ) (
   nw 116 tFun Fv.nil w40 fun a51 w52 =>
   nw 90 tFun Fv.nil w52 fun a53 w54 =>
   st tFun a53 (Fv.mk (.func 48) (List.toArray [.pointer (x14)]) (List.toArray [])) w54 fun w55 =>
   kp ((RdAt tPtr (a13.add 1) w55) x15) <|
   kp ((RdAt tPtr (a13.add 1) w55) x16) <|
   st tFun a39 (Fv.mk (.func 49) (List.toArray [.pointer (x15)]) (List.toArray [])) w55 fun w58 =>
   kp ((RdAt tPtr (a13.add 1) w58) x16) <|
   st tFun a51 (Fv.mk (.func 50) (List.toArray [.pointer (x16)]) (List.toArray [])) w58 fun w60 =>
   F71_j1 s_1 k_2 a53 a39 a51 w60 R
  )
 ) (
  nw 116 tFun Fv.nil w12 fun a61 w62 =>
  bth (
   nw 90 tFun Fv.nil w62 fun a63 w64 =>
   nw 116 tFun Fv.nil w64 fun a65 w66 =>
   st tFun a63 (Fv.mk (.func 48) (List.toArray [.pointer (x14)]) (List.toArray [])) w66 fun w67 =>
   kp ((RdAt tPtr (a13.add 1) w67) x15) <|
   kp ((RdAt tPtr (a13.add 1) w67) x16) <|
   st tFun a65 (Fv.mk (.func 49) (List.toArray [.pointer (x15)]) (List.toArray [])) w67 fun w70 =>
   kp ((RdAt tPtr (a13.add 1) w70) x16) <|
   st tFun a61 (Fv.mk (.func 50) (List.toArray [.pointer (x16)]) (List.toArray [])) w70 fun w72 =>
   F71_j1 s_1 k_2 a63 a65 a61 w72 R
  ) (
   nw 116 tFun Fv.nil w62 fun a73 w74 =>
   nw 90 tFun Fv.nil w74 fun a75 w76 =>
   st tFun a75 (Fv.mk (.func 48) (List.toArray [.pointer (x14)]) (List.toArray [])) w76 fun w77 =>
   kp ((RdAt tPtr (a13.add 1) w77) x15) <|
   kp ((RdAt tPtr (a13.add 1) w77) x16) <|
   st tFun a73 (Fv.mk (.func 49) (List.toArray [.pointer (x15)]) (List.toArray [])) w77 fun w80 =>
   kp ((RdAt tPtr (a13.add 1) w80) x16) <|
   st tFun a61 (Fv.mk (.func 50) (List.toArray [.pointer (x16)]) (List.toArray [])) w80 fun w82 =>
   F71_j1 s_1 k_2 a75 a73 a61 w82 R
  )
 ))
theorem F71_ok {s_1 : (Option Addr)} {k_2 : Int} {w : World} {R : Fv → World → Prop} (h : F71 s_1 k_2 w R) : cl Tryz.prog 71 [.pointer (s_1), .int .i64 (k_2)] tFun w R := by
 unfold F71 at h
 refine calls_start 38 Tryz.func71 rfl rfl (Nat.le_of_ble_eq_true rfl) <| wp_seq <| wp_text [0] rfl <| za 4 ((Fv.nil).enc) rfl rfl <| ro_nil <| seq_join (σ := Addr × Addr × Addr) (J := fun (s : Addr × Addr × Addr) w => F71_j1 s_1 k_2 s.1 s.2.1 s.2.2 w R) (fr := fun g (s : Addr × Addr × Addr) => upd (upd (upd (upd (upd (g) 0 (.pointer (s_1))) 1 (.int .i64 (k_2))) 5 (.pointer (some s.1))) 6 (.pointer (some s.2.1))) 7 (.pointer (some s.2.2))) ?_ ?_
 ·rintro ⟨drop_3, shut_4, prune_5⟩ g w6 h
  unfold F71_j1 at h
  refine wp_seq <| wp_seq <| wp_text [0] rfl <| zm 23 (.int .i64 (k_2)) rfl rfl <| ro_nil <| wp_block <| wp_seq <| wp_text [0, 1] rfl <| rv 25 rfl rfl rfl (q_eql (a := k_2) (b := (3 : Int)) rfl rfl rfl) <| za 24 (.bool ((k_2 == (3 : Int)))) rfl rfl <| ro_nil <| zi h rfl (fun _ h => ?_) fun _ h => ?_
  ·refine wp_seq <| wp_text [0, 1, 2, 3, 4, 5] rfl <| zm 26 (.pointer (s_1)) rfl rfl ?_
   obtain ⟨a7, ha7, h⟩ := h
   refine zn 27 ha7 rfl rfl <| zf 28 a7 1 Tryz.underlying46 ok44 rfl rfl rfl ?_
   obtain ⟨x8, hx8, h⟩ := h
   refine zl 29 hx8 ok44 rfl rfl <| rv 30 rfl rfl rfl (q_makeFunc (fn := .func 47) (va := [.pointer (x8)]) (vc := []) rfl rfl rfl) <| za 4 (((Fv.mk (.func 47) (List.toArray [.pointer (x8)]) (List.toArray []))).enc) rfl rfl <| ro_nil <| wp_ret ?_
   exact zr1 h rfl rfl
  ·refine wp_seq <| wp_text [0, 1] rfl <| rv 32 rfl rfl rfl (q_eql (a := k_2) (b := (4 : Int)) rfl rfl rfl) <| za 31 (.bool ((k_2 == (4 : Int)))) rfl rfl <| ro_nil <| zi h rfl (fun _ h => ?_) fun _ h => ?_
   ·refine wp_seq <| wp_text [0, 1] rfl <| rv 33 rfl rfl rfl (q_makeFunc (fn := .func 110) (va := []) (vc := [.pointer (some drop_3)]) rfl rfl rfl) <| za 4 (((Fv.mk (.func 110) (List.toArray []) (List.toArray [.pointer (some drop_3)]))).enc) rfl rfl <| ro_nil <| wp_ret ?_
    exact zr1 h rfl rfl
   ·refine wp_seq <| wp_text [0, 1] rfl <| rv 35 rfl rfl rfl (q_eql (a := k_2) (b := (5 : Int)) rfl rfl rfl) <| za 34 (.bool ((k_2 == (5 : Int)))) rfl rfl <| ro_nil <| zi h rfl (fun _ h => ?_) fun _ h => ?_
    ·refine wp_seq <| wp_text [0, 1] rfl <| rv 36 rfl rfl rfl (q_makeFunc (fn := .func 111) (va := []) (vc := [.pointer (some shut_4)]) rfl rfl rfl) <| za 4 (((Fv.mk (.func 111) (List.toArray []) (List.toArray [.pointer (some shut_4)]))).enc) rfl rfl <| ro_nil <| wp_ret ?_
     exact zr1 h rfl rfl
    ·refine wp_skip <| wp_seq <| wp_text [0, 1] rfl <| rv 37 rfl rfl rfl (q_makeFunc (fn := .func 112) (va := []) (vc := [.pointer (some prune_5)]) rfl rfl rfl) <| za 4 (((Fv.mk (.func 112) (List.toArray []) (List.toArray [.pointer (some prune_5)]))).enc) rfl rfl <| ro_nil <| wp_ret ?_
     exact zr1 h rfl rfl
 ·obtain ⟨w12, hw12, h⟩ := dr_open h
  refine wp_drawn 21 mixed rfl (by kernel_rfl) (by intro c a d v w h; cases d <;> exact h) hw12 (fun hD => ?_)
  refine ym 0 8 (.pointer (s_1)) hD rfl rfl ?_
  obtain ⟨a13, ha13, h⟩ := h
  refine yn 1 9 ha13 hD rfl rfl <| yf 2 10 a13 1 Tryz.underlying46 ok44 hD rfl rfl rfl <| ym 5 13 (.pointer (s_1)) hD rfl rfl <| yn 6 14 ha13 hD rfl rfl <| yf 7 15 a13 1 Tryz.underlying46 ok44 hD rfl rfl rfl <| ym 10 18 (.pointer (s_1)) hD rfl rfl <| yn 11 19 ha13 hD rfl rfl <| yf 12 20 a13 1 Tryz.underlying46 ok44 hD rfl rfl rfl ?_
  obtain ⟨x14, hx14, h⟩ := h
  refine yr 3 11 hx14 ok44 hD rfl rfl <| rp 4 12 hD rfl rfl rfl (fun _ => q_makeFunc (fn := .func 48) (va := [.pointer (x14)]) (vc := []) rfl rfl rfl) ?_
  obtain ⟨x15, hx15, h⟩ := h
  refine yr 8 16 hx15 ok44 hD rfl rfl <| rp 9 17 hD rfl rfl rfl (fun _ => q_makeFunc (fn := .func 49) (va := [.pointer (x15)]) (vc := []) rfl rfl rfl) ?_
  obtain ⟨x16, hx16, h⟩ := h
  refine yr 13 21 hx16 ok44 hD rfl rfl <| rp 14 22 hD rfl rfl rfl (fun _ => q_makeFunc (fn := .func 50) (va := [.pointer (x16)]) (vc := []) rfl rfl rfl) ?_
  obtain ⟨h, h', h''⟩ := h
  refine rd_three (i := 15) (j := 16) (m := 17) (by kernel_rfl) ?_ ?_ ?_
  ·clear h' h''
   obtain ⟨a17, w18, ha17, hw18, h⟩ := nw_open h
   refine po_val (d := (some 5)) rfl (.free rfl) rfl (q_alloc (u := Fv.nil) rfl ok90 inf90 ha17 hw18) ⟨(hk_keep (fun h => keep_RdAt hw18 h) (hk_keep (fun h => keep_RdAt hw18 h) (hk_keep (fun h => keep_RdAt hw18 h) hk_nil))), ?_⟩
   obtain ⟨h, h'⟩ := h
   refine rd_two (i := 16) (j := 17) (by kernel_rfl) ?_ ?_
   ·clear h'
    obtain ⟨a19, w20, ha19, hw20, h⟩ := nw_open h
    refine po_val (d := (some 6)) rfl (.free rfl) rfl (q_alloc (u := Fv.nil) rfl ok116 inf116 ha19 hw20) ⟨(hk_keep (fun h => keep_RdAt hw20 h) (hk_keep (fun h => keep_RdAt hw20 h) (hk_keep (fun h => keep_RdAt hw20 h) hk_nil))), ?_⟩
    refine rd_one (i := 17) (by kernel_rfl) ?_
    obtain ⟨a21, w22, ha21, hw22, h⟩ := nw_open h
    refine po_val (d := (some 7)) rfl (.free rfl) rfl (q_alloc (u := Fv.nil) rfl ok116 inf116 ha21 hw22) ⟨(hk_keep (fun h => keep_RdAt hw22 h) (hk_keep (fun h => keep_RdAt hw22 h) (hk_keep (fun h => keep_RdAt hw22 h) hk_nil))), ?_⟩
    refine rd_one (i := 18) (by kernel_rfl) ?_
    obtain ⟨w23, hw23, hrw23, h⟩ := st_open h
    obtain ⟨hk24, h⟩ := h
    obtain ⟨hk25, h⟩ := h
    refine po_skip (d := none) rfl (.free rfl) rfl (q_store (T := tFun) (u := (Fv.mk (.func 48) (List.toArray [.pointer (x14)]) (List.toArray []))) (a := a17) rfl ok90 rfl rfl hrw23 hw23) ⟨(hk_keep (fun _ => hk25) (hk_keep (fun _ => hk24) (hk_wait (by kernel_rfl) hk_nil))), ?_⟩
    refine rd_one (i := 19) (by kernel_rfl) ?_
    obtain ⟨w26, hw26, hrw26, h⟩ := st_open h
    obtain ⟨hk27, h⟩ := h
    refine po_skip (d := none) rfl (.free rfl) rfl (q_store (T := tFun) (u := (Fv.mk (.func 49) (List.toArray [.pointer (x15)]) (List.toArray []))) (a := a19) rfl ok116 rfl rfl hrw26 hw26) ⟨(hk_keep (fun _ => hk27) (hk_wait (by kernel_rfl) (hk_wait (by kernel_rfl) hk_nil))), ?_⟩
    refine rd_one (i := 20) (by kernel_rfl) ?_
    obtain ⟨w28, hw28, hrw28, h⟩ := st_open h
    refine po_skip (d := none) rfl (.free rfl) rfl (q_store (T := tFun) (u := (Fv.mk (.func 50) (List.toArray [.pointer (x16)]) (List.toArray []))) (a := a21) rfl ok116 rfl rfl hrw28 hw28) ⟨(hk_wait (by kernel_rfl) (hk_wait (by kernel_rfl) (hk_wait (by kernel_rfl) hk_nil))), ?_⟩
    refine rd_nil (by kernel_rfl) ?_
    exact ⟨(a17, a19, a21), _, arr (upd_step (upd_step (upd_step (upd_step (upd_step rfl rfl) rfl) rfl) rfl) rfl), h⟩
   ·replace h := h'; clear h'
    obtain ⟨a29, w30, ha29, hw30, h⟩ := nw_open h
    refine po_val (d := (some 7)) rfl (.free rfl) rfl (q_alloc (u := Fv.nil) rfl ok116 inf116 ha29 hw30) ⟨(hk_keep (fun h => keep_RdAt hw30 h) (hk_keep (fun h => keep_RdAt hw30 h) (hk_keep (fun h => keep_RdAt hw30 h) hk_nil))), ?_⟩
    refine rd_one (i := 16) (by kernel_rfl) ?_
    obtain ⟨a31, w32, ha31, hw32, h⟩ := nw_open h
    refine po_val (d := (some 6)) rfl (.free rfl) rfl (q_alloc (u := Fv.nil) rfl ok116 inf116 ha31 hw32) ⟨(hk_keep (fun h => keep_RdAt hw32 h) (hk_keep (fun h => keep_RdAt hw32 h) (hk_keep (fun h => keep_RdAt hw32 h) hk_nil))), ?_⟩
    refine rd_one (i := 18) (by kernel_rfl) ?_
    obtain ⟨w33, hw33, hrw33, h⟩ := st_open h
    obtain ⟨hk34, h⟩ := h
    obtain ⟨hk35, h⟩ := h
    refine po_skip (d := none) rfl (.free rfl) rfl (q_store (T := tFun) (u := (Fv.mk (.func 48) (List.toArray [.pointer (x14)]) (List.toArray []))) (a := a17) rfl ok90 rfl rfl hrw33 hw33) ⟨(hk_keep (fun _ => hk35) (hk_keep (fun _ => hk34) (hk_wait (by kernel_rfl) hk_nil))), ?_⟩
    refine rd_one (i := 19) (by kernel_rfl) ?_
    obtain ⟨w36, hw36, hrw36, h⟩ := st_open h
    obtain ⟨hk37, h⟩ := h
    refine po_skip (d := none) rfl (.free rfl) rfl (q_store (T := tFun) (u := (Fv.mk (.func 49) (List.toArray [.pointer (x15)]) (List.toArray []))) (a := a31) rfl ok116 rfl rfl hrw36 hw36) ⟨(hk_keep (fun _ => hk37) (hk_wait (by kernel_rfl) (hk_wait (by kernel_rfl) hk_nil))), ?_⟩
    refine rd_one (i := 20) (by kernel_rfl) ?_
    obtain ⟨w38, hw38, hrw38, h⟩ := st_open h
    refine po_skip (d := none) rfl (.free rfl) rfl (q_store (T := tFun) (u := (Fv.mk (.func 50) (List.toArray [.pointer (x16)]) (List.toArray []))) (a := a29) rfl ok116 rfl rfl hrw38 hw38) ⟨(hk_wait (by kernel_rfl) (hk_wait (by kernel_rfl) (hk_wait (by kernel_rfl) hk_nil))), ?_⟩
    refine rd_nil (by kernel_rfl) ?_
    exact ⟨(a17, a31, a29), _, arr (upd_step (upd_step (upd_step (upd_step (upd_step rfl rfl) rfl) rfl) rfl) rfl), h⟩
  ·replace h := h'; clear h' h''
   obtain ⟨a39, w40, ha39, hw40, h⟩ := nw_open h
   refine po_val (d := (some 6)) rfl (.free rfl) rfl (q_alloc (u := Fv.nil) rfl ok116 inf116 ha39 hw40) ⟨(hk_keep (fun h => keep_RdAt hw40 h) (hk_keep (fun h => keep_RdAt hw40 h) (hk_keep (fun h => keep_RdAt hw40 h) hk_nil))), ?_⟩
   obtain ⟨h, h'⟩ := h
   refine rd_two (i := 15) (j := 17) (by kernel_rfl) ?_ ?_
   ·clear h'
    obtain ⟨a41, w42, ha41, hw42, h⟩ := nw_open h
    refine po_val (d := (some 5)) rfl (.free rfl) rfl (q_alloc (u := Fv.nil) rfl ok90 inf90 ha41 hw42) ⟨(hk_keep (fun h => keep_RdAt hw42 h) (hk_keep (fun h => keep_RdAt hw42 h) (hk_keep (fun h => keep_RdAt hw42 h) hk_nil))), ?_⟩
    refine rd_one (i := 17) (by kernel_rfl) ?_
    obtain ⟨a43, w44, ha43, hw44, h⟩ := nw_open h
    refine po_val (d := (some 7)) rfl (.free rfl) rfl (q_alloc (u := Fv.nil) rfl ok116 inf116 ha43 hw44) ⟨(hk_keep (fun h => keep_RdAt hw44 h) (hk_keep (fun h => keep_RdAt hw44 h) (hk_keep (fun h => keep_RdAt hw44 h) hk_nil))), ?_⟩
    refine rd_one (i := 18) (by kernel_rfl) ?_
    obtain ⟨w45, hw45, hrw45, h⟩ := st_open h
    obtain ⟨hk46, h⟩ := h
    obtain ⟨hk47, h⟩ := h
    refine po_skip (d := none) rfl (.free rfl) rfl (q_store (T := tFun) (u := (Fv.mk (.func 48) (List.toArray [.pointer (x14)]) (List.toArray []))) (a := a41) rfl ok90 rfl rfl hrw45 hw45) ⟨(hk_keep (fun _ => hk47) (hk_keep (fun _ => hk46) (hk_wait (by kernel_rfl) hk_nil))), ?_⟩
    refine rd_one (i := 19) (by kernel_rfl) ?_
    obtain ⟨w48, hw48, hrw48, h⟩ := st_open h
    obtain ⟨hk49, h⟩ := h
    refine po_skip (d := none) rfl (.free rfl) rfl (q_store (T := tFun) (u := (Fv.mk (.func 49) (List.toArray [.pointer (x15)]) (List.toArray []))) (a := a39) rfl ok116 rfl rfl hrw48 hw48) ⟨(hk_keep (fun _ => hk49) (hk_wait (by kernel_rfl) (hk_wait (by kernel_rfl) hk_nil))), ?_⟩
    refine rd_one (i := 20) (by kernel_rfl) ?_
    obtain ⟨w50, hw50, hrw50, h⟩ := st_open h
    refine po_skip (d := none) rfl (.free rfl) rfl (q_store (T := tFun) (u := (Fv.mk (.func 50) (List.toArray [.pointer (x16)]) (List.toArray []))) (a := a43) rfl ok116 rfl rfl hrw50 hw50) ⟨(hk_wait (by kernel_rfl) (hk_wait (by kernel_rfl) (hk_wait (by kernel_rfl) hk_nil))), ?_⟩
    refine rd_nil (by kernel_rfl) ?_
    exact ⟨(a41, a39, a43), _, arr (upd_step (upd_step (upd_step (upd_step (upd_step rfl rfl) rfl) rfl) rfl) rfl), h⟩
   ·replace h := h'; clear h'
    obtain ⟨a51, w52, ha51, hw52, h⟩ := nw_open h
    refine po_val (d := (some 7)) rfl (.free rfl) rfl (q_alloc (u := Fv.nil) rfl ok116 inf116 ha51 hw52) ⟨(hk_keep (fun h => keep_RdAt hw52 h) (hk_keep (fun h => keep_RdAt hw52 h) (hk_keep (fun h => keep_RdAt hw52 h) hk_nil))), ?_⟩
    refine rd_one (i := 15) (by kernel_rfl) ?_
    obtain ⟨a53, w54, ha53, hw54, h⟩ := nw_open h
    refine po_val (d := (some 5)) rfl (.free rfl) rfl (q_alloc (u := Fv.nil) rfl ok90 inf90 ha53 hw54) ⟨(hk_keep (fun h => keep_RdAt hw54 h) (hk_keep (fun h => keep_RdAt hw54 h) (hk_keep (fun h => keep_RdAt hw54 h) hk_nil))), ?_⟩
    refine rd_one (i := 18) (by kernel_rfl) ?_
    obtain ⟨w55, hw55, hrw55, h⟩ := st_open h
    obtain ⟨hk56, h⟩ := h
    obtain ⟨hk57, h⟩ := h
    refine po_skip (d := none) rfl (.free rfl) rfl (q_store (T := tFun) (u := (Fv.mk (.func 48) (List.toArray [.pointer (x14)]) (List.toArray []))) (a := a53) rfl ok90 rfl rfl hrw55 hw55) ⟨(hk_keep (fun _ => hk57) (hk_keep (fun _ => hk56) (hk_wait (by kernel_rfl) hk_nil))), ?_⟩
    refine rd_one (i := 19) (by kernel_rfl) ?_
    obtain ⟨w58, hw58, hrw58, h⟩ := st_open h
    obtain ⟨hk59, h⟩ := h
    refine po_skip (d := none) rfl (.free rfl) rfl (q_store (T := tFun) (u := (Fv.mk (.func 49) (List.toArray [.pointer (x15)]) (List.toArray []))) (a := a39) rfl ok116 rfl rfl hrw58 hw58) ⟨(hk_keep (fun _ => hk59) (hk_wait (by kernel_rfl) (hk_wait (by kernel_rfl) hk_nil))), ?_⟩
    refine rd_one (i := 20) (by kernel_rfl) ?_
    obtain ⟨w60, hw60, hrw60, h⟩ := st_open h
    refine po_skip (d := none) rfl (.free rfl) rfl (q_store (T := tFun) (u := (Fv.mk (.func 50) (List.toArray [.pointer (x16)]) (List.toArray []))) (a := a51) rfl ok116 rfl rfl hrw60 hw60) ⟨(hk_wait (by kernel_rfl) (hk_wait (by kernel_rfl) (hk_wait (by kernel_rfl) hk_nil))), ?_⟩
    refine rd_nil (by kernel_rfl) ?_
    exact ⟨(a53, a39, a51), _, arr (upd_step (upd_step (upd_step (upd_step (upd_step rfl rfl) rfl) rfl) rfl) rfl), h⟩
  ·replace h := h''; clear h' h''
   obtain ⟨a61, w62, ha61, hw62, h⟩ := nw_open h
   refine po_val (d := (some 7)) rfl (.free rfl) rfl (q_alloc (u := Fv.nil) rfl ok116 inf116 ha61 hw62) ⟨(hk_keep (fun h => keep_RdAt hw62 h) (hk_keep (fun h => keep_RdAt hw62 h) (hk_keep (fun h => keep_RdAt hw62 h) hk_nil))), ?_⟩
   obtain ⟨h, h'⟩ := h
   refine rd_two (i := 15) (j := 16) (by kernel_rfl) ?_ ?_
   ·clear h'
    obtain ⟨a63, w64, ha63, hw64, h⟩ := nw_open h
    refine po_val (d := (some 5)) rfl (.free rfl) rfl (q_alloc (u := Fv.nil) rfl ok90 inf90 ha63 hw64) ⟨(hk_keep (fun h => keep_RdAt hw64 h) (hk_keep (fun h => keep_RdAt hw64 h) (hk_keep (fun h => keep_RdAt hw64 h) hk_nil))), ?_⟩
    refine rd_one (i := 16) (by kernel_rfl) ?_
    obtain ⟨a65, w66, ha65, hw66, h⟩ := nw_open h
    refine po_val (d := (some 6)) rfl (.free rfl) rfl (q_alloc (u := Fv.nil) rfl ok116 inf116 ha65 hw66) ⟨(hk_keep (fun h => keep_RdAt hw66 h) (hk_keep (fun h => keep_RdAt hw66 h) (hk_keep (fun h => keep_RdAt hw66 h) hk_nil))), ?_⟩
    refine rd_one (i := 18) (by kernel_rfl) ?_
    obtain ⟨w67, hw67, hrw67, h⟩ := st_open h
    obtain ⟨hk68, h⟩ := h
    obtain ⟨hk69, h⟩ := h
    refine po_skip (d := none) rfl (.free rfl) rfl (q_store (T := tFun) (u := (Fv.mk (.func 48) (List.toArray [.pointer (x14)]) (List.toArray []))) (a := a63) rfl ok90 rfl rfl hrw67 hw67) ⟨(hk_keep (fun _ => hk69) (hk_keep (fun _ => hk68) (hk_wait (by kernel_rfl) hk_nil))), ?_⟩
    refine rd_one (i := 19) (by kernel_rfl) ?_
    obtain ⟨w70, hw70, hrw70, h⟩ := st_open h
    obtain ⟨hk71, h⟩ := h
    refine po_skip (d := none) rfl (.free rfl) rfl (q_store (T := tFun) (u := (Fv.mk (.func 49) (List.toArray [.pointer (x15)]) (List.toArray []))) (a := a65) rfl ok116 rfl rfl hrw70 hw70) ⟨(hk_keep (fun _ => hk71) (hk_wait (by kernel_rfl) (hk_wait (by kernel_rfl) hk_nil))), ?_⟩
    refine rd_one (i := 20) (by kernel_rfl) ?_
    obtain ⟨w72, hw72, hrw72, h⟩ := st_open h
    refine po_skip (d := none) rfl (.free rfl) rfl (q_store (T := tFun) (u := (Fv.mk (.func 50) (List.toArray [.pointer (x16)]) (List.toArray []))) (a := a61) rfl ok116 rfl rfl hrw72 hw72) ⟨(hk_wait (by kernel_rfl) (hk_wait (by kernel_rfl) (hk_wait (by kernel_rfl) hk_nil))), ?_⟩
    refine rd_nil (by kernel_rfl) ?_
    exact ⟨(a63, a65, a61), _, arr (upd_step (upd_step (upd_step (upd_step (upd_step rfl rfl) rfl) rfl) rfl) rfl), h⟩
   ·replace h := h'; clear h'
    obtain ⟨a73, w74, ha73, hw74, h⟩ := nw_open h
    refine po_val (d := (some 6)) rfl (.free rfl) rfl (q_alloc (u := Fv.nil) rfl ok116 inf116 ha73 hw74) ⟨(hk_keep (fun h => keep_RdAt hw74 h) (hk_keep (fun h => keep_RdAt hw74 h) (hk_keep (fun h => keep_RdAt hw74 h) hk_nil))), ?_⟩
    refine rd_one (i := 15) (by kernel_rfl) ?_
    obtain ⟨a75, w76, ha75, hw76, h⟩ := nw_open h
    refine po_val (d := (some 5)) rfl (.free rfl) rfl (q_alloc (u := Fv.nil) rfl ok90 inf90 ha75 hw76) ⟨(hk_keep (fun h => keep_RdAt hw76 h) (hk_keep (fun h => keep_RdAt hw76 h) (hk_keep (fun h => keep_RdAt hw76 h) hk_nil))), ?_⟩
    refine rd_one (i := 18) (by kernel_rfl) ?_
    obtain ⟨w77, hw77, hrw77, h⟩ := st_open h
    obtain ⟨hk78, h⟩ := h
    obtain ⟨hk79, h⟩ := h
    refine po_skip (d := none) rfl (.free rfl) rfl (q_store (T := tFun) (u := (Fv.mk (.func 48) (List.toArray [.pointer (x14)]) (List.toArray []))) (a := a75) rfl ok90 rfl rfl hrw77 hw77) ⟨(hk_keep (fun _ => hk79) (hk_keep (fun _ => hk78) (hk_wait (by kernel_rfl) hk_nil))), ?_⟩
    refine rd_one (i := 19) (by kernel_rfl) ?_
    obtain ⟨w80, hw80, hrw80, h⟩ := st_open h
    obtain ⟨hk81, h⟩ := h
    refine po_skip (d := none) rfl (.free rfl) rfl (q_store (T := tFun) (u := (Fv.mk (.func 49) (List.toArray [.pointer (x15)]) (List.toArray []))) (a := a73) rfl ok116 rfl rfl hrw80 hw80) ⟨(hk_keep (fun _ => hk81) (hk_wait (by kernel_rfl) (hk_wait (by kernel_rfl) hk_nil))), ?_⟩
    refine rd_one (i := 20) (by kernel_rfl) ?_
    obtain ⟨w82, hw82, hrw82, h⟩ := st_open h
    refine po_skip (d := none) rfl (.free rfl) rfl (q_store (T := tFun) (u := (Fv.mk (.func 50) (List.toArray [.pointer (x16)]) (List.toArray []))) (a := a61) rfl ok116 rfl rfl hrw82 hw82) ⟨(hk_wait (by kernel_rfl) (hk_wait (by kernel_rfl) (hk_wait (by kernel_rfl) hk_nil))), ?_⟩
    refine rd_nil (by kernel_rfl) ?_
    exact ⟨(a75, a73, a61), _, arr (upd_step (upd_step (upd_step (upd_step (upd_step rfl rfl) rfl) rfl) rfl) rfl), h⟩
def F72 (load_1 : Slc) (w : World) (R : (Slc × Int) → World → Prop) : Prop :=
 if (decide ((load_1.len : Int) > (65536 : Int))) = true then (
  R ((⟨none, 0, 0⟩ : Slc), (30 : Int)) w
 ) else (
  mkS 5 (tInt .u8) 1 (0 : Int) (0 : Int) (IntKind.i64.wrap ((8 : Int) + (load_1.len : Int))) w fun r3 w2 =>
  cl Tryz.prog 113 [tSlc.enc (r3), .int .u32 ((IntKind.u32.wrap (load_1.len : Int)))] tSlc w2 fun r5 w4 =>
  cl Tryz.prog 114 [tSlc.enc (r5), tSlc.enc (load_1)] (tInt .u32) w4 fun r7 w6 =>
  cl Tryz.prog 113 [tSlc.enc (r5), .int .u32 (r7)] tSlc w6 fun r9 w8 =>
  apd 5 (tInt .u8) 1 1 r9 load_1 w8 fun r11 w10 =>
  R (r11, (0 : Int)) w10
 )
theorem F72_ok {load_1 : Slc} {w : World} {R : (Slc × Int) → World → Prop} (h : F72 load_1 w R) : cl Tryz.prog 72 [tSlc.enc (load_1)] (tTup2 tSlc (tInt .i64)) w R := by
 unfold F72 at h
 refine calls_start 24 Tryz.func72 rfl rfl (Nat.le_of_ble_eq_true rfl) <| wp_seq <| wp_text [0, 1] rfl <| za 2 (tSlc.enc ((⟨none, 0, 0⟩ : Slc))) rfl rfl <| za 3 (.int .i64 ((0 : Int))) rfl rfl <| ro_nil <| wp_seq <| wp_seq <| wp_text [0, 1, 2] rfl <| zm 5 (tSlc.enc (load_1)) rfl rfl <| rv 6 rfl rfl rfl (q_len (s := load_1) rfl Tryz.underlying25 rfl) <| rv 7 rfl rfl rfl (q_gtr (a := (load_1.len : Int)) (b := (65536 : Int)) rfl rfl rfl) ?_
 refine ro_nil <| zi h rfl (fun _ h => ?_) fun _ h => ?_
 ·refine wp_seq <| wp_text [0, 1] rfl <| za 2 (tSlc.enc ((⟨none, 0, 0⟩ : Slc))) rfl rfl <| za 3 (.int .i64 ((30 : Int))) rfl rfl <| ro_nil <| wp_ret ?_
  exact zr2 h rfl rfl
 ·refine wp_skip <| wp_seq <| wp_text [0, 1, 2, 3, 4, 5, 6, 7, 8] rfl <| zm 8 (tSlc.enc (load_1)) rfl rfl <| rv 9 rfl rfl rfl (q_len (s := load_1) rfl Tryz.underlying25 rfl) <| rv 10 rfl rfl rfl (q_add (a := (8 : Int)) (b := (load_1.len : Int)) rfl rfl rfl) <| ro_wp rfl (.free rfl) (wp_mkS (T := (tInt .u8)) (z := (0 : Int)) (l := (0 : Int)) (c := (IntKind.i64.wrap ((8 : Int) + (load_1.len : Int)))) (d := (some 11)) rfl rfl Tryz.underlying25 ok5 inf5 rfl rfl h ?_)
  intro r3 w2 h
  refine zm 12 (tSlc.enc (load_1)) rfl rfl <| rv 13 rfl rfl rfl (q_len (s := load_1) rfl Tryz.underlying25 rfl) <| rv 14 rfl rfl rfl (q_cvtI (a := (load_1.len : Int)) rfl Tryz.underlying3 Tryz.underlying189 rfl) <| zc ent113 rfl rfl h fun r5 w4 h => za 4 (tSlc.enc (r5)) rfl rfl <| ro_nil <| wp_seq <| wp_text [0, 1, 2, 3, 4, 5] rfl <| zm 16 (tSlc.enc (r5)) rfl rfl <| zm 17 (tSlc.enc (r5)) rfl rfl <| zm 18 (tSlc.enc (load_1)) rfl rfl <| zc ent114 rfl rfl h fun r7 w6 h => ?_
  refine zc ent113 rfl rfl h fun r9 w8 h => za 4 (tSlc.enc (r9)) rfl rfl <| ro_nil <| wp_seq <| wp_text [0, 1, 2, 3, 4] rfl <| zm 21 (tSlc.enc (r9)) rfl rfl <| zm 22 (tSlc.enc (load_1)) rfl rfl <| ro_wp rfl (.free rfl) (wp_append (d := (some 23)) (T := (tInt .u8)) rfl rfl Tryz.underlying25 ⟨_, Tryz.underlying25⟩ ok5 inf5 rfl rfl (Nat.lt_of_lt_of_le Nat.zero_lt_one (Nat.le_of_ble_eq_true rfl)) rfl rfl h ?_)
  intro r11 w10 h
  refine za 2 (tSlc.enc (r11)) rfl rfl <| za 3 (.int .i64 ((0 : Int))) rfl rfl <| ro_nil <| wp_ret ?_
  exact zr2 h rfl rfl
def F73_j1 (d_1 : (Option Addr)) (n_2 : Int) (a4 : Addr) (size_7 : Int) (w8 : World) (R : Int → World → Prop) : Prop :=
 cl Tryz.prog 74 [.pointer (d_1), .int .i64 (n_2), .int .i64 (size_7), ((Fv.mk (.func 115) (List.toArray []) (List.toArray [.pointer (some a4)]))).enc] (tInt .i64) w8 fun r10 w9 =>
 R r10 w9
def F73 (d_1 : (Option Addr)) (n_2 : Int) (b_3 : Slc) (w : World) (R : Int → World → Prop) : Prop :=
 nw 25 tSlc b_3 w fun a4 w5 =>
 ex (RdAt tSlc a4 w5) fun x6 =>
 cl Tryz.prog 107 [.pointer (d_1), .int .i64 (n_2)] tBool w5 fun r12 w11 =>
 if r12 = true then (
  ex (NC d_1) fun a13 =>
  ex (RdAt tSlc (a13.add 0) w11) fun x14 =>
  ex (IxA x14 2 n_2) fun a15 =>
  ex (RdAt tSlc (a15.add 0) w11) fun x16 =>
  F73_j1 d_1 n_2 a4 (IntKind.i64.wrap ((x6.len : Int) + (x16.len : Int))) w11 R
 ) else (
  F73_j1 d_1 n_2 a4 (x6.len : Int) w11 R
 )
theorem F73_ok {d_1 : (Option Addr)} {n_2 : Int} {b_3 : Slc} {w : World} {R : Int → World → Prop} (h : F73 d_1 n_2 b_3 w R) : cl Tryz.prog 73 [.pointer (d_1), .int .i64 (n_2), tSlc.enc (b_3)] (tInt .i64) w R := by
 unfold F73 at h
 refine calls_start 29 Tryz.func73 rfl rfl (Nat.le_of_ble_eq_true rfl) <| wp_seq <| wp_text [0, 1] rfl ?_
 obtain ⟨a4, w5, ha4, hw5, h⟩ := nw_open h
 refine rv 5 rfl rfl rfl (q_box (u := b_3) rfl ok25 rfl ha4 hw5) <| za 6 (.int .i64 ((0 : Int))) rfl rfl <| ro_nil <| wp_seq <| wp_text [0, 1, 2] rfl ?_
 obtain ⟨x6, hx6, h⟩ := h
 refine zl 8 hx6 ok25 rfl rfl <| rv 9 rfl rfl rfl (q_len (s := x6) rfl Tryz.underlying25 rfl) <| za 7 (.int .i64 ((x6.len : Int))) rfl rfl <| ro_nil <| seq_join (σ := Int) (J := fun (s : Int) w => F73_j1 d_1 n_2 a4 s w R) (fr := fun g (s : Int) => upd (upd (upd (upd (g) 0 (.pointer (d_1))) 1 (.int .i64 (n_2))) 5 (.pointer (some a4))) 7 (.int .i64 (s))) ?_ ?_
 ·rintro size_7 g w8 h
  unfold F73_j1 at h
  refine wp_seq <| wp_text [0, 1, 2, 3, 4, 5] rfl <| zm 24 (.pointer (d_1)) rfl rfl <| zm 25 (.int .i64 (n_2)) rfl rfl <| zm 26 (.int .i64 (size_7)) rfl rfl <| rv 27 rfl rfl rfl (q_makeFunc (fn := .func 115) (va := []) (vc := [.pointer (some a4)]) rfl rfl rfl) <| zc ent74 rfl rfl h fun r10 w9 h => za 6 (.int .i64 (r10)) rfl rfl <| ro_nil <| wp_ret ?_
  exact zr1 h rfl rfl
 ·refine wp_seq <| wp_text [0, 1, 2] rfl <| zm 10 (.pointer (d_1)) rfl rfl <| zm 11 (.int .i64 (n_2)) rfl rfl <| zc ent107 rfl rfl h fun r12 w11 h => ro_nil <| zi h rfl (fun _ h => ?_) fun _ h => ?_
  ·refine wp_text [0, 1, 2, 3, 4, 5, 6, 7, 8, 9, 10, 11] rfl <| zm 13 (.int .i64 ((x6.len : Int))) rfl rfl <| zm 14 (.pointer (d_1)) rfl rfl ?_
   obtain ⟨a13, ha13, h⟩ := h
   refine zn 15 ha13 rfl rfl <| zf 16 a13 0 Tryz.underlying77 ok75 rfl rfl rfl ?_
   obtain ⟨x14, hx14, h⟩ := h
   refine zl 17 hx14 ok75 rfl rfl <| zm 18 (.int .i64 (n_2)) rfl rfl ?_
   obtain ⟨a15, ha15, h⟩ := h
   refine rv 19 rfl rfl rfl (q_indexAddr (s := x14) (k := .i64) (i := n_2) rfl Tryz.underlying75 ok93 rfl rfl ha15) <| zf 20 a15 0 Tryz.underlying93 ok25 rfl rfl rfl ?_
   obtain ⟨x16, hx16, h⟩ := h
   refine zl 21 hx16 ok25 rfl rfl <| rv 22 rfl rfl rfl (q_len (s := x16) rfl Tryz.underlying25 rfl) <| rv 23 rfl rfl rfl (q_add (a := (x6.len : Int)) (b := (x16.len : Int)) rfl rfl rfl) <| za 7 (.int .i64 ((IntKind.i64.wrap ((x6.len : Int) + (x16.len : Int))))) rfl rfl <| ro_nil ?_
   exact ⟨((IntKind.i64.wrap ((x6.len : Int) + (x16.len : Int)))), _, arr (upd_step (upd_step (upd_step (upd_step rfl rfl) rfl) rfl) rfl), h⟩
  ·refine wp_skip ?_
   exact ⟨((x6.len : Int)), _, arr (upd_step (upd_step (upd_step (upd_step rfl rfl) rfl) rfl) rfl), h⟩
def F74_j1 (d_1 : (Option Addr)) (n_2 : Int) (do_4 : Fv) (w5 : World) (R : Int → World → Prop) : Prop :=
 ex (NC d_1) fun a6 =>
 ex (RdAt (tInt .i64) (a6.add 1) w5) fun x7 =>
 st (tInt .i64) (a6.add 1) (IntKind.i64.wrap (x7 + (1 : Int))) w5 fun w8 =>
 ex (RdAt tSlc (a6.add 0) w8) fun x9 =>
 ex (IxA x9 2 n_2) fun a10 =>
 clv Tryz.prog do_4 [.pointer (some a10)] tUnit w8 fun r12 w11 =>
 R (0 : Int) w11
def F74 (d_1 : (Option Addr)) (n_2 : Int) (size_3 : Int) (do_4 : Fv) (w : World) (R : Int → World → Prop) : Prop :=
 cl Tryz.prog 107 [.pointer (d_1), .int .i64 (n_2)] tBool w fun r14 w13 =>
 if (!r14) = true then (
  R (70 : Int) w13
 ) else (
  ex (NC d_1) fun a15 =>
  ex (RdAt tBool (a15.add 2) w13) fun x16 =>
  if x16 = true then (
   R (71 : Int) w13
  ) else (
   if (decide (size_3 > (4194304 : Int))) = true then (
    R (72 : Int) w13
   ) else (
    ex (RdAt (tInt .i64) (a15.add 3) w13) fun x17 =>
    if (x17 == (1 : Int)) = true then (
     ex (RdAt tSlc (a15.add 4) w13) fun x18 =>
     cl Tryz.prog 16 [.pointer (d_1), tSlc.enc (x18)] tUnit w13 fun r20 w19 =>
     R (71 : Int) w19
    ) else (
     ex (RdAt (tInt .i64) (a15.add 3) w13) fun x21 =>
     if (decide (x21 > (1 : Int))) = true then (
      ex (RdAt (tInt .i64) (a15.add 3) w13) fun x22 =>
      st (tInt .i64) (a15.add 3) (IntKind.i64.wrap (x22 - (1 : Int))) w13 fun w23 =>
      F74_j1 d_1 n_2 do_4 w23 R
     ) else (
      F74_j1 d_1 n_2 do_4 w13 R
     )
    )
   )
  )
 )
theorem F74_ok {d_1 : (Option Addr)} {n_2 : Int} {size_3 : Int} {do_4 : Fv} {w : World} {R : Int → World → Prop} (h : F74 d_1 n_2 size_3 do_4 w R) : cl Tryz.prog 74 [.pointer (d_1), .int .i64 (n_2), .int .i64 (size_3), (do_4).enc] (tInt .i64) w R := by
 unfold F74 at h
 refine calls_start 62 Tryz.func74 rfl rfl (Nat.le_of_ble_eq_true rfl) <| wp_seq <| wp_text [0] rfl <| za 8 (.int .i64 ((0 : Int))) rfl rfl <| ro_nil <| seq_join (σ := Unit) (J := fun (s : Unit) w => F74_j1 d_1 n_2 do_4 w R) (fr := fun g (s : Unit) => upd (upd (upd (g) 0 (.pointer (d_1))) 1 (.int .i64 (n_2))) 3 ((do_4).enc)) ?_ ?_
 ·rintro ⟨⟩ g w5 h
  unfold F74_j1 at h
  refine wp_seq <| wp_text [0, 1, 2, 3, 4, 5, 6, 7] rfl <| zm 47 (.pointer (d_1)) rfl rfl ?_
  obtain ⟨a6, ha6, h⟩ := h
  refine zn 48 ha6 rfl rfl <| zf 49 a6 1 Tryz.underlying77 ok3 rfl rfl rfl ?_
  obtain ⟨x7, hx7, h⟩ := h
  refine zl 50 hx7 ok3 rfl rfl <| rv 51 rfl rfl rfl (q_add (a := x7) (b := (1 : Int)) rfl rfl rfl) <| zn 52 ha6 rfl rfl <| zf 53 a6 1 Tryz.underlying77 ok3 rfl rfl rfl ?_
  obtain ⟨w8, hw8, hrw8, h⟩ := st_open h
  refine ro_skip (d := none) rfl (.free rfl) rfl (q_store (T := (tInt .i64)) (u := (IntKind.i64.wrap (x7 + (1 : Int)))) (a := (a6.add 1)) rfl ok3 rfl rfl hrw8 hw8) <| ro_nil <| wp_seq <| wp_text [0, 1, 2, 3, 4, 5, 6, 7] rfl <| zm 54 ((do_4).enc) rfl rfl <| zm 55 (.pointer (d_1)) rfl rfl <| zn 56 ha6 rfl rfl <| zf 57 a6 0 Tryz.underlying77 ok75 rfl rfl rfl ?_
  obtain ⟨x9, hx9, h⟩ := h
  refine zl 58 hx9 ok75 rfl rfl <| zm 59 (.int .i64 (n_2)) rfl rfl ?_
  obtain ⟨a10, ha10, h⟩ := h
  refine rv 60 rfl rfl rfl (q_indexAddr (s := x9) (k := .i64) (i := n_2) rfl Tryz.underlying75 ok93 rfl rfl ha10) <| ro_wp rfl (.free rfl) (wp_clv (d := (some 61)) (l := [.pointer (some a10)]) (fv := do_4) rfl rfl rfl rfl h ?_)
  intro r12 w11 h
  refine ro_nil <| wp_seq <| wp_text [0] rfl <| za 8 (.int .i64 ((0 : Int))) rfl rfl <| ro_nil <| wp_ret ?_
  exact zr1 h rfl rfl
 ·refine wp_block <| wp_seq <| wp_text [0, 1, 2, 3, 4] rfl <| zm 10 (.pointer (d_1)) rfl rfl <| zm 11 (.int .i64 (n_2)) rfl rfl <| zc ent107 rfl rfl h fun r14 w13 h => rv 13 rfl rfl rfl (q_not (b := r14) rfl rfl) <| za 9 (.bool ((!r14))) rfl rfl <| ro_nil <| zi h rfl (fun _ h => ?_) fun _ h => ?_
  ·refine wp_seq <| wp_text [0] rfl <| za 8 (.int .i64 ((70 : Int))) rfl rfl <| ro_nil <| wp_ret ?_
   exact zr1 h rfl rfl
  ·refine wp_seq <| wp_text [0, 1, 2, 3, 4] rfl <| zm 15 (.pointer (d_1)) rfl rfl ?_
   obtain ⟨a15, ha15, h⟩ := h
   refine zn 16 ha15 rfl rfl <| zf 17 a15 2 Tryz.underlying77 ok4 rfl rfl rfl ?_
   obtain ⟨x16, hx16, h⟩ := h
   refine zl 18 hx16 ok4 rfl rfl <| za 14 (.bool (x16)) rfl rfl <| ro_nil <| zi h rfl (fun _ h => ?_) fun _ h => ?_
   ·refine wp_seq <| wp_text [0] rfl <| za 8 (.int .i64 ((71 : Int))) rfl rfl <| ro_nil <| wp_ret ?_
    exact zr1 h rfl rfl
   ·refine wp_seq <| wp_text [0, 1, 2] rfl <| zm 20 (.int .i64 (size_3)) rfl rfl <| rv 21 rfl rfl rfl (q_gtr (a := size_3) (b := (4194304 : Int)) rfl rfl rfl) <| za 19 (.bool ((decide (size_3 > (4194304 : Int))))) rfl rfl <| ro_nil <| zi h rfl (fun _ h => ?_) fun _ h => ?_
    ·refine wp_seq <| wp_text [0] rfl <| za 8 (.int .i64 ((72 : Int))) rfl rfl <| ro_nil <| wp_ret ?_
     exact zr1 h rfl rfl
    ·refine wp_seq <| wp_text [0, 1, 2, 3, 4, 5] rfl <| zm 23 (.pointer (d_1)) rfl rfl <| zn 24 ha15 rfl rfl <| zf 25 a15 3 Tryz.underlying77 ok3 rfl rfl rfl ?_
     obtain ⟨x17, hx17, h⟩ := h
     refine zl 26 hx17 ok3 rfl rfl <| rv 27 rfl rfl rfl (q_eql (a := x17) (b := (1 : Int)) rfl rfl rfl) <| za 22 (.bool ((x17 == (1 : Int)))) rfl rfl <| ro_nil <| zi h rfl (fun _ h => ?_) fun _ h => ?_
     ·refine wp_seq <| wp_text [0, 1, 2, 3, 4, 5] rfl <| zm 28 (.pointer (d_1)) rfl rfl <| zm 29 (.pointer (d_1)) rfl rfl <| zn 30 ha15 rfl rfl <| zf 31 a15 4 Tryz.underlying77 ok57 rfl rfl rfl ?_
      obtain ⟨x18, hx18, h⟩ := h
      refine zl 32 hx18 ok57 rfl rfl <| zc ent16 rfl rfl h fun r20 w19 h => ro_nil <| wp_seq <| wp_text [0] rfl <| za 8 (.int .i64 ((71 : Int))) rfl rfl <| ro_nil <| wp_ret ?_
      exact zr1 h rfl rfl
     ·refine wp_seq <| wp_text [0, 1, 2, 3, 4, 5] rfl <| zm 35 (.pointer (d_1)) rfl rfl <| zn 36 ha15 rfl rfl <| zf 37 a15 3 Tryz.underlying77 ok3 rfl rfl rfl ?_
      obtain ⟨x21, hx21, h⟩ := h
      refine zl 38 hx21 ok3 rfl rfl <| rv 39 rfl rfl rfl (q_gtr (a := x21) (b := (1 : Int)) rfl rfl rfl) <| za 34 (.bool ((decide (x21 > (1 : Int))))) rfl rfl <| ro_nil <| zi h rfl (fun _ h => ?_) fun _ h => ?_
      ·refine wp_text [0, 1, 2, 3, 4, 5, 6, 7] rfl <| zm 40 (.pointer (d_1)) rfl rfl <| zn 41 ha15 rfl rfl <| zf 42 a15 3 Tryz.underlying77 ok3 rfl rfl rfl ?_
       obtain ⟨x22, hx22, h⟩ := h
       refine zl 43 hx22 ok3 rfl rfl <| rv 44 rfl rfl rfl (q_sub (a := x22) (b := (1 : Int)) rfl rfl rfl) <| zn 45 ha15 rfl rfl <| zf 46 a15 3 Tryz.underlying77 ok3 rfl rfl rfl ?_
       obtain ⟨w23, hw23, hrw23, h⟩ := st_open h
       refine ro_skip (d := none) rfl (.free rfl) rfl (q_store (T := (tInt .i64)) (u := (IntKind.i64.wrap (x22 - (1 : Int)))) (a := (a15.add 3)) rfl ok3 rfl rfl hrw23 hw23) <| ro_nil ?_
       exact ⟨(), _, arr (upd_step (upd_step (upd_step rfl rfl) rfl) rfl), h⟩
      ·refine wp_skip ?_
       exact ⟨(), _, arr (upd_step (upd_step (upd_step rfl rfl) rfl) rfl), h⟩
def F75 (l_1 : (Option Addr)) (w : World) (R : Unit → World → Prop) : Prop :=
 ex (NC l_1) fun a2 =>
 ex (RdAt tSlc (a2.add 0) w) fun x3 =>
 st (tInt .i64) (a2.add 1) (x3.len : Int) w fun w4 =>
 R () w4
theorem F75_ok {l_1 : (Option Addr)} {w : World} {R : Unit → World → Prop} (h : F75 l_1 w R) : cl Tryz.prog 75 [.pointer (l_1)] tUnit w R := by
 unfold F75 at h
 refine calls_start 10 Tryz.func75 rfl rfl (Nat.le_of_ble_eq_true rfl) <| wp_text [0, 1, 2, 3, 4, 5, 6, 7, 8] rfl <| zm 2 (.pointer (l_1)) rfl rfl <| zm 3 (.pointer (l_1)) rfl rfl ?_
 obtain ⟨a2, ha2, h⟩ := h
 refine zn 4 ha2 rfl rfl <| zf 5 a2 0 Tryz.underlying93 ok25 rfl rfl rfl ?_
 obtain ⟨x3, hx3, h⟩ := h
 refine zl 6 hx3 ok25 rfl rfl <| rv 7 rfl rfl rfl (q_len (s := x3) rfl Tryz.underlying25 rfl) <| zn 8 ha2 rfl rfl <| zf 9 a2 1 Tryz.underlying93 ok3 rfl rfl rfl ?_
 obtain ⟨w4, hw4, hrw4, h⟩ := st_open h
 refine ro_skip (d := none) rfl (.free rfl) rfl (q_store (T := (tInt .i64)) (u := (x3.len : Int)) (a := (a2.add 1)) rfl ok3 rfl rfl hrw4 hw4) <| ro_nil ?_
 exact end_ok rfl .nil ⟨(), rfl, h⟩
def F76 (s_1 : (Option Addr)) (w : World) (R : Int → World → Prop) : Prop :=
 ex (NC s_1) fun a2 =>
 ex (RdAt (tInt .i64) (a2.add 1) w) fun x3 =>
 R x3 w
theorem F76_ok {s_1 : (Option Addr)} {w : World} {R : Int → World → Prop} (h : F76 s_1 w R) : cl Tryz.prog 76 [.pointer (s_1)] (tInt .i64) w R := by
 unfold F76 at h
 refine calls_start 7 Tryz.func76 rfl rfl (Nat.le_of_ble_eq_true rfl) <| wp_seq <| wp_text [0] rfl <| za 2 (.int .i64 ((0 : Int))) rfl rfl <| ro_nil <| wp_seq <| wp_text [0, 1, 2, 3, 4] rfl <| zm 3 (.pointer (s_1)) rfl rfl ?_
 obtain ⟨a2, ha2, h⟩ := h
 refine zn 4 ha2 rfl rfl <| zf 5 a2 1 Tryz.underlying169 ok2 rfl rfl rfl ?_
 obtain ⟨x3, hx3, h⟩ := h
 refine zl 6 hx3 ok2 rfl rfl <| za 2 (.int .i64 (x3)) rfl rfl <| ro_nil <| wp_ret ?_
 exact zr1 h rfl rfl
def F77 (s_1 : (Option Addr)) (w : World) (R : Int → World → Prop) : Prop :=
 ex (NC s_1) fun a2 =>
 ex (RdAt (tInt .i64) (a2.add 2) w) fun x3 =>
 R x3 w
theorem F77_ok {s_1 : (Option Addr)} {w : World} {R : Int → World → Prop} (h : F77 s_1 w R) : cl Tryz.prog 77 [.pointer (s_1)] (tInt .i64) w R := by
 unfold F77 at h
 refine calls_start 7 Tryz.func77 rfl rfl (Nat.le_of_ble_eq_true rfl) <| wp_seq <| wp_text [0] rfl <| za 2 (.int .i64 ((0 : Int))) rfl rfl <| ro_nil <| wp_seq <| wp_text [0, 1, 2, 3, 4] rfl <| zm 3 (.pointer (s_1)) rfl rfl ?_
 obtain ⟨a2, ha2, h⟩ := h
 refine zn 4 ha2 rfl rfl <| zf 5 a2 2 Tryz.underlying169 ok2 rfl rfl rfl ?_
 obtain ⟨x3, hx3, h⟩ := h
 refine zl 6 hx3 ok2 rfl rfl <| za 2 (.int .i64 (x3)) rfl rfl <| ro_nil <| wp_ret ?_
 exact zr1 h rfl rfl
def F79 (m_1 : (Option Nat)) (w : World) (R : Fv → World → Prop) : Prop :=
 nw 97 tMap m_1 w fun a2 w3 =>
 R (Fv.mk (.func 118) (List.toArray []) (List.toArray [.pointer (some a2)])) w3
theorem F79_ok {m_1 : (Option Nat)} {w : World} {R : Fv → World → Prop} (h : F79 m_1 w R) : cl Tryz.prog 79 [.map (m_1)] tFun w R := by
 unfold F79 at h
 refine calls_start 4 Tryz.func79 rfl rfl (Nat.le_of_ble_eq_true rfl) <| wp_seq <| wp_text [0, 1] rfl ?_
 obtain ⟨a2, w3, ha2, hw3, h⟩ := nw_open h
 refine rv 1 rfl rfl rfl (q_box (u := m_1) rfl ok97 rfl ha2 hw3) <| za 2 ((Fv.nil).enc) rfl rfl <| ro_nil <| wp_seq <| wp_text [0, 1] rfl <| rv 3 rfl rfl rfl (q_makeFunc (fn := .func 118) (va := []) (vc := [.pointer (some a2)]) rfl rfl rfl) <| za 2 (((Fv.mk (.func 118) (List.toArray []) (List.toArray [.pointer (some a2)]))).enc) rfl rfl <| ro_nil <| wp_ret ?_
 exact zr1 h rfl rfl
end Go.Proofs.YtehclfjjjiiieaaGreat.Cf
namespace Go.Proofs.YtehclfjjjiiieaaGreat.Cf
open Go
set_option maxRecDepth 100000
set_option maxHeartbeats 1000000
set_option linter.unusedVariables false
set_option linter.unusedSimpArgs false
def F80_j2 (t_12 : Int) (l_15 : Slc) (w16 : World) (K14 : Slc × Int → World → Prop) (R : (Slc × Int) → World → Prop) : Prop :=
 K14 (l_15, (IntKind.i64.wrap (t_12 + (1 : Int)))) w16
def F80_l1 (at_2 : Int) (a5 : Addr) (r10 : Slc) (l_11 : Slc) (t_12 : Int) (w13 : World) (K14 : Slc × Int → World → Prop) (R : (Slc × Int) → World → Prop) : Prop :=
 if (decide (t_12 < (r10.len : Int))) = true then (
  ex (IxA r10 1 t_12) fun a17 =>
  ex (RdAt (tInt .i64) a17 w13) fun x18 =>
  ex (RdAt tMap (a5.add 0) w13) fun x19 =>
  ex (MapGet tPtr .i64 x19 x18 w13) fun m20 =>
  cl Tryz.prog 121 [.pointer ((m20.getD (none : Option Addr))), .int .i64 (at_2)] (tTup2 T117 (tInt .i64)) w13 fun r22 w21 =>
  nw 118 T117 Z117 w21 fun a23 w24 =>
  st T117 a23 r22.1 w24 fun w25 =>
  if (r22.2 == (0 : Int)) = true then (
   ex (RdAt (tInt .i64) (a23.add 1) w25) fun x26 =>
   apl 123 T122 2 16 l_11 [(⟨x18, x26⟩ : S122)] w25 fun r30 w29 =>
   F80_j2 t_12 r30 w29 K14 R
  ) else (
   F80_j2 t_12 l_11 w25 K14 R
  )
 ) else (
  R (l_11, (0 : Int)) w13
 )
def F80 (s_1 : (Option Addr)) (at_2 : Int) (w : World) (R : (Slc × Int) → World → Prop) : Prop :=
 cl Tryz.prog 119 [.pointer (s_1), .int .i64 (at_2)] (tInt .i64) w fun r4 w3 =>
 if (r4 != (0 : Int)) = true then (
  R ((⟨none, 0, 0⟩ : Slc), r4) w3
 ) else (
  ex (NC s_1) fun a5 =>
  ex (RdAt tMap (a5.add 0) w3) fun x6 =>
  cl Tryz.prog 120 [.map (x6)] tFun w3 fun r8 w7 =>
  cl Tryz.prog 78 [(r8).enc] tSlc w7 fun r10 w9 =>
  lp (fun (s : Slc × Int) w K => F80_l1 at_2 a5 r10 s.1 s.2 w K R) ((⟨none, 0, 0⟩ : Slc), (0 : Int)) w9
 )
theorem F80_ok {s_1 : (Option Addr)} {at_2 : Int} {w : World} {R : (Slc × Int) → World → Prop} (h : F80 s_1 at_2 w R) : cl Tryz.prog 80 [.pointer (s_1), .int .i64 (at_2)] (tTup2 tSlc (tInt .i64)) w R := by
 unfold F80 at h
 refine calls_start 51 Tryz.func80 rfl rfl (Nat.le_of_ble_eq_true rfl) <| wp_seq <| wp_text [0, 1] rfl <| za 4 (tSlc.enc ((⟨none, 0, 0⟩ : Slc))) rfl rfl <| za 5 (.int .i64 ((0 : Int))) rfl rfl <| ro_nil <| wp_seq <| wp_seq <| wp_text [0, 1, 2, 3] rfl <| zm 12 (.pointer (s_1)) rfl rfl <| zm 13 (.int .i64 (at_2)) rfl rfl <| zc ent119 rfl rfl h fun r4 w3 h => ?_
 refine za 6 (.int .i64 (r4)) rfl rfl <| ro_nil <| wp_seq <| wp_text [0, 1] rfl <| zm 15 (.int .i64 (r4)) rfl rfl <| rv 16 rfl rfl rfl (q_neq (a := r4) (b := (0 : Int)) rfl rfl rfl) <| ro_nil <| zi h rfl (fun _ h => ?_) fun _ h => ?_
 ·refine wp_seq <| wp_text [0, 1, 2] rfl <| zm 17 (.int .i64 (r4)) rfl rfl <| za 4 (tSlc.enc ((⟨none, 0, 0⟩ : Slc))) rfl rfl <| za 5 (.int .i64 (r4)) rfl rfl <| ro_nil <| wp_ret ?_
  exact zr2 h rfl rfl
 ·refine wp_skip <| wp_seq <| wp_text [0] rfl <| za 7 (tSlc.enc ((⟨none, 0, 0⟩ : Slc))) rfl rfl <| ro_nil <| wp_seq <| wp_seq <| wp_text [0, 1, 2, 3, 4, 5, 6, 7] rfl <| zm 18 (.pointer (s_1)) rfl rfl ?_
  obtain ⟨a5, ha5, h⟩ := h
  refine zn 19 ha5 rfl rfl <| zf 20 a5 0 Tryz.underlying169 ok167 rfl rfl rfl ?_
  obtain ⟨x6, hx6, h⟩ := h
  refine zl 21 hx6 ok167 rfl rfl <| zc ent120 rfl rfl h fun r8 w7 h => zc ent78 rfl rfl h fun r10 w9 h => rv 24 rfl rfl rfl (q_len (s := r10) rfl Tryz.underlying57 rfl) <| zm 25 (.int .i64 ((0 : Int))) rfl rfl <| ro_nil <| wp_block <| loop_at (σ := Slc × Int) (fr := fun g (s : Slc × Int) => upd (upd (upd (upd (upd (upd (g) 0 (.pointer (s_1))) 1 (.int .i64 (at_2))) 23 (tSlc.enc (r10))) 24 (.int .i64 ((r10.len : Int)))) 7 (tSlc.enc (s.1))) 25 (.int .i64 (s.2))) (s0 := ((⟨none, 0, 0⟩ : Slc), (0 : Int))) (upd_step (upd_step (upd_step (upd_step (upd_step (upd_step rfl rfl) rfl) rfl) rfl) rfl) rfl) h ?_
  rintro ⟨l_11, t_12⟩ g w13 K14 h
  unfold F80_l1 at h
  refine wp_seq <| wp_text [0] rfl <| rv 26 rfl rfl rfl (q_lss (a := t_12) (b := (r10.len : Int)) rfl rfl rfl) <| ro_nil <| wp_seq <| zi h rfl (fun _ h => ?_) fun _ h => ?_
  ·refine wp_skip <| seq_join (σ := Slc) (J := fun (s : Slc) w => F80_j2 t_12 s w K14 R) (fr := fun g (s : Slc) => upd (upd (upd (upd (upd (upd (g) 0 (.pointer (s_1))) 1 (.int .i64 (at_2))) 23 (tSlc.enc (r10))) 24 (.int .i64 ((r10.len : Int)))) 25 (.int .i64 (t_12))) 7 (tSlc.enc (s))) ?_ ?_
   ·rintro l_15 g w16 h
    unfold F80_j2 at h
    refine wp_text [0, 1] rfl <| rv 49 rfl rfl rfl (q_add (a := t_12) (b := (1 : Int)) rfl rfl rfl) <| zm 25 (.int .i64 ((IntKind.i64.wrap (t_12 + (1 : Int))))) rfl rfl <| ro_nil ?_
    exact ⟨(l_15, (IntKind.i64.wrap (t_12 + (1 : Int)))), _, arr (upd_step (upd_step (upd_step (upd_step (upd_step (upd_step rfl rfl) rfl) rfl) rfl) rfl) rfl), h⟩
   ·refine wp_block <| wp_seq <| wp_text [0, 1, 2] rfl ?_
    obtain ⟨a17, ha17, h⟩ := h
    refine rv 27 rfl rfl rfl (q_indexAddr (s := r10) (k := .i64) (i := t_12) rfl Tryz.underlying57 ok3 rfl rfl ha17) ?_
    obtain ⟨x18, hx18, h⟩ := h
    refine zl 28 hx18 ok3 rfl rfl <| za 9 (.int .i64 (x18)) rfl rfl <| ro_nil <| wp_seq <| wp_text [0, 1, 2, 3, 4, 5, 6, 7, 8, 9, 10, 11, 12, 13] rfl <| zm 30 (.pointer (s_1)) rfl rfl <| zn 31 ha5 rfl rfl <| zf 32 a5 0 Tryz.underlying169 ok167 rfl rfl rfl ?_
    obtain ⟨x19, hx19, h⟩ := h
    refine zl 33 hx19 ok167 rfl rfl <| zm 34 (.int .i64 (x18)) rfl rfl ?_
    obtain ⟨m20, hm20, h⟩ := h
    refine rv 35 rfl rfl rfl (q_lookup (T := tPtr) (r := x19) (key := x18) (u := m20) (z := (none : Option Addr)) rfl Tryz.underlying167 Tryz.underlying3 (inf165) rfl rfl hm20) <| zm 36 (.int .i64 (at_2)) rfl rfl <| zc ent121 rfl rfl h fun r22 w21 h => zm 29 ((tTup2 T117 (tInt .i64)).enc (r22)) rfl rfl <| ze 38 (T117.enc (r22.1)) rfl rfl rfl <| ze 39 (.int .i64 (r22.2)) rfl rfl rfl ?_
    obtain ⟨a23, w24, ha23, hw24, h⟩ := nw_open h
    refine rv 10 rfl rfl rfl (q_alloc (u := Z117) rfl ok118 inf118 ha23 hw24) ?_
    obtain ⟨w25, hw25, hrw25, h⟩ := st_open h
    refine ro_skip (d := none) rfl (.free rfl) rfl (q_store (T := T117) (u := r22.1) (a := a23) rfl ok118 rfl rfl hrw25 hw25) <| za 11 (.int .i64 (r22.2)) rfl rfl <| ro_nil <| wp_seq <| wp_text [0, 1] rfl <| zm 40 (.int .i64 (r22.2)) rfl rfl <| rv 41 rfl rfl rfl (q_eql (a := r22.2) (b := (0 : Int)) rfl rfl rfl) <| ro_nil <| zi h rfl (fun _ h => ?_) fun _ h => ?_
    ·refine wp_text [0, 1, 2, 3, 4, 5, 6, 7] rfl <| zm 42 (tSlc.enc (l_11)) rfl rfl <| zm 43 (.int .i64 (x18)) rfl rfl <| zf 44 a23 1 Tryz.underlying118 ok2 rfl rfl rfl ?_
     obtain ⟨x26, hx26, h⟩ := h
     refine zl 45 hx26 ok2 rfl rfl <| rv 46 rfl rfl rfl (q_build123_0_1 (v0 := x18) (v1 := x26) rfl rfl rfl) ?_
     obtain ⟨a27, w28, ha27, hw28, h⟩ := apl_open h
     refine rv 47 rfl rfl rfl (q_rowOf (T := T122) (xs := [(⟨x18, x26⟩ : S122)]) rfl Tryz.underlying108 ok123 inf123 rfl (by decide) (by decide) rfl ha27 hw28) <| ro_wp rfl (.free rfl) (wp_append (d := (some 48)) (T := T122) rfl rfl Tryz.underlying108 ⟨_, Tryz.underlying108⟩ ok123 inf123 rfl rfl (Nat.lt_of_lt_of_le Nat.zero_lt_one (Nat.le_of_ble_eq_true rfl)) rfl rfl h ?_)
     intro r30 w29 h
     refine za 7 (tSlc.enc (r30)) rfl rfl <| ro_nil ?_
     exact ⟨(r30), _, arr (upd_step (upd_step (upd_step (upd_step (upd_step (upd_step rfl rfl) rfl) rfl) rfl) rfl) rfl), h⟩
    ·refine wp_skip ?_
     exact ⟨(l_11), _, arr (upd_step (upd_step (upd_step (upd_step (upd_step (upd_step rfl rfl) rfl) rfl) rfl) rfl) rfl), h⟩
  ·refine wp_exit <| wp_seq <| wp_text [0, 1, 2] rfl <| zm 50 (tSlc.enc (l_11)) rfl rfl <| za 4 (tSlc.enc (l_11)) rfl rfl <| za 5 (.int .i64 ((0 : Int))) rfl rfl <| ro_nil <| wp_ret ?_
   exact zr2 h rfl rfl
def F81 (e_1 : Int) (w : World) (R : Int → World → Prop) : Prop :=
 if (e_1 == (120 : Int)) = true then (
  R (151 : Int) w
 ) else (
  if (e_1 == (128 : Int)) = true then (
   R (164 : Int) w
  ) else (
   if (e_1 == (126 : Int)) = true then (
    R (165 : Int) w
   ) else (
    if (e_1 == (127 : Int)) = true then (
     R (159 : Int) w
    ) else (
     R e_1 w
    )
   )
  )
 )
theorem F81_ok {e_1 : Int} {w : World} {R : Int → World → Prop} (h : F81 e_1 w R) : cl Tryz.prog 81 [.int .i64 (e_1)] (tInt .i64) w R := by
 unfold F81 at h
 refine calls_start 13 Tryz.func81 rfl rfl (Nat.le_of_ble_eq_true rfl) <| wp_seq <| wp_text [0] rfl <| za 2 (.int .i64 ((0 : Int))) rfl rfl <| ro_nil <| wp_seq <| wp_seq <| wp_text [0] rfl <| zm 3 (.int .i64 (e_1)) rfl rfl <| ro_nil <| wp_block <| wp_seq ?_
 refine wp_text [0, 1] rfl <| rv 5 rfl rfl rfl (q_eql (a := e_1) (b := (120 : Int)) rfl rfl rfl) <| za 4 (.bool ((e_1 == (120 : Int)))) rfl rfl <| ro_nil <| zi h rfl (fun _ h => ?_) fun _ h => ?_
 ·refine wp_seq <| wp_text [0] rfl <| za 2 (.int .i64 ((151 : Int))) rfl rfl <| ro_nil <| wp_ret ?_
  exact zr1 h rfl rfl
 ·refine wp_seq <| wp_text [0, 1] rfl <| rv 7 rfl rfl rfl (q_eql (a := e_1) (b := (128 : Int)) rfl rfl rfl) <| za 6 (.bool ((e_1 == (128 : Int)))) rfl rfl <| ro_nil <| zi h rfl (fun _ h => ?_) fun _ h => ?_
  ·refine wp_seq <| wp_text [0] rfl <| za 2 (.int .i64 ((164 : Int))) rfl rfl <| ro_nil <| wp_ret ?_
   exact zr1 h rfl rfl
  ·refine wp_seq <| wp_text [0, 1] rfl <| rv 9 rfl rfl rfl (q_eql (a := e_1) (b := (126 : Int)) rfl rfl rfl) <| za 8 (.bool ((e_1 == (126 : Int)))) rfl rfl <| ro_nil <| zi h rfl (fun _ h => ?_) fun _ h => ?_
   ·refine wp_seq <| wp_text [0] rfl <| za 2 (.int .i64 ((165 : Int))) rfl rfl <| ro_nil <| wp_ret ?_
    exact zr1 h rfl rfl
   ·refine wp_seq <| wp_text [0, 1] rfl <| rv 11 rfl rfl rfl (q_eql (a := e_1) (b := (127 : Int)) rfl rfl rfl) <| za 10 (.bool ((e_1 == (127 : Int)))) rfl rfl <| ro_nil <| zi h rfl (fun _ h => ?_) fun _ h => ?_
    ·refine wp_seq <| wp_text [0] rfl <| za 2 (.int .i64 ((159 : Int))) rfl rfl <| ro_nil <| wp_ret ?_
     exact zr1 h rfl rfl
    ·refine wp_skip <| wp_seq <| wp_text [0, 1] rfl <| zm 12 (.int .i64 (e_1)) rfl rfl <| za 2 (.int .i64 (e_1)) rfl rfl <| ro_nil <| wp_ret ?_
     exact zr1 h rfl rfl
def F82_j2 (a3 : Addr) (a6 : Addr) (has_13 : Addr) (open_14 : Bool) (m19 : (Option Int)) (t_27 : Bool) (w28 : World) (R : (Int × Int) → World → Prop) : Prop :=
 if t_27 = true then (
  R ((0 : Int), (155 : Int)) w28
 ) else (
  if (!open_14) = true then (
   R ((0 : Int), (159 : Int)) w28
  ) else (
   if ((m19.getD (0 : Int), m19.isSome)).2 = true then (
    R ((0 : Int), (160 : Int)) w28
   ) else (
    ex (RdAt tBool (a3.add 3) w28) fun x29 =>
    if (!x29) = true then (
     ex (RdAt (tInt .i64) (has_13.add 1) w28) fun x30 =>
     ex (RdAt (tInt .i64) (a3.add 2) w28) fun x31 =>
     cl Tryz.prog 122 [.int .i64 (x30), .int .i64 (x31)] (tTup2 (tInt .i64) (tInt .i64)) w28 fun r33 w32 =>
     if (r33.2 != (0 : Int)) = true then (
      R ((0 : Int), (162 : Int)) w32
     ) else (
      R ((0 : Int), (0 : Int)) w32
     )
    ) else (
     dr w28 fun w35 =>
     ex (RdAt (tInt .i64) (a3.add 2) w35) fun x36 =>
     ex (RdAt tFlt (a6.add 1) w35) fun x37 =>
     cl Tryz.prog 123 [.int .i64 (x36), .float .f64 (x37)] (tTup2 (tInt .i64) (tInt .i64)) w35 fun r39 w38 =>
     ex (RdAt (tInt .i64) (has_13.add 1) w38) fun x40 =>
     ex (RdAt (tInt .i64) (a3.add 2) w38) fun x41 =>
     if (decide (x40 < (IntKind.i64.wrap (x41 + r39.1)))) = true then (
      R ((0 : Int), (161 : Int)) w38
     ) else (
      R (r39.1, (0 : Int)) w38
     )
    )
   )
  )
 )
def F82_j1 (a3 : Addr) (a6 : Addr) (m9 : (Option S156)) (has_13 : Addr) (open_14 : Bool) (w15 : World) (R : (Int × Int) → World → Prop) : Prop :=
 dr w15 fun w16 =>
 ex (RdAt tMap (a6.add 4) w16) fun x17 =>
 ex (RdAt (tInt .i64) (a3.add 1) w16) fun x18 =>
 ex (MapGet (tInt .i64) .i64 x17 x18 w16) fun m19 =>
 ex (RdAt (tInt .i64) (a3.add 0) w16) fun x20 =>
 if (decide (x20 < (1 : Int))) = true then (
  R ((0 : Int), (156 : Int)) w16
 ) else (
  if ((m9.getD Z156, m9.isSome)).2 = true then (
   R ((0 : Int), (157 : Int)) w16
  ) else (
   ex (RdAt tMap (a6.add 5) w16) fun x21 =>
   ex (MapLen x21 w16) fun l22 =>
   if (decide ((l22 : Int) ≥ (5000 : Int))) = true then (
    R ((0 : Int), (158 : Int)) w16
   ) else (
    ex (RdAt (tInt .i64) (a3.add 1) w16) fun x23 =>
    cl Tryz.prog 53 [.int .i64 (x23)] tBool w16 fun r25 w24 =>
    if (!r25) = true then (
     R ((0 : Int), (153 : Int)) w24
    ) else (
     ex (RdAt (tInt .i64) (a3.add 2) w24) fun x26 =>
     if (decide (x26 < (1 : Int))) = true then (
      F82_j2 a3 a6 has_13 open_14 m19 true w24 R
     ) else (
      ex (RdAt (tInt .i64) (a3.add 2) w24) fun x48 =>
      cl Tryz.prog 54 [.int .i64 (x48)] (tInt .i64) w24 fun r50 w49 =>
      F82_j2 a3 a6 has_13 open_14 m19 (r50 != (0 : Int)) w49 R
     )
    )
   )
  )
 )
def F82 (v_1 : (Option Addr)) (p_2 : S113) (w : World) (R : (Int × Int) → World → Prop) : Prop :=
 nw 114 T113 p_2 w fun a3 w4 =>
 dr w4 fun w5 =>
 ex (NC v_1) fun a6 =>
 ex (RdAt tMap (a6.add 5) w5) fun x7 =>
 ex (RdAt (tInt .i64) (a3.add 0) w5) fun x8 =>
 ex (MapGet T156 .i64 x7 x8 w5) fun m9 =>
 nw 157 T156 Z156 w5 fun a10 w11 =>
 st T156 a10 (((m9.getD Z156, m9.isSome)).1) w11 fun w12 =>
 dr w12 fun w55 =>
 ex (RdAt tPtr ((a6.add 0).add 0) w55) fun x56 =>
 ex (RdAt (tInt .i64) (a3.add 1) w55) fun x57 =>
 bth (
  cl Tryz.prog 52 [.pointer (x56), .int .i64 (x57)] (tTup2 T117 tBool) w55 fun r59 w58 =>
  nw 118 T117 Z117 w58 fun a60 w61 =>
  st T117 a60 r59.1 w61 fun w62 =>
  F82_j1 a3 a6 m9 a60 r59.2 w62 R
 ) (
  nw 118 T117 Z117 w55 fun a63 w64 =>
  cl Tryz.prog 52 [.pointer (x56), .int .i64 (x57)] (tTup2 T117 tBool) w64 fun r66 w65 =>
  st T117 a63 r66.1 w65 fun w67 =>
  F82_j1 a3 a6 m9 a63 r66.2 w67 R
 )
theorem F82_ok {v_1 : (Option Addr)} {p_2 : S113} {w : World} {R : (Int × Int) → World → Prop} (h : F82 v_1 p_2 w R) : cl Tryz.prog 82 [.pointer (v_1), T113.enc (p_2)] (tTup2 (tInt .i64) (tInt .i64)) w R := by
 unfold F82 at h
 refine calls_start 111 Tryz.func82 rfl rfl (Nat.le_of_ble_eq_true rfl) <| wp_seq <| wp_text [0, 1, 2] rfl ?_
 obtain ⟨a3, w4, ha3, hw4, h⟩ := nw_open h
 refine rv 3 rfl rfl rfl (q_box (u := p_2) rfl ok114 rfl ha3 hw4) <| za 4 (.int .i64 ((0 : Int))) rfl rfl <| za 5 (.int .i64 ((0 : Int))) rfl rfl <| ro_nil <| wp_seq ?_
 obtain ⟨w5, hw5, h⟩ := dr_open h
 refine wp_drawn 13 mixed rfl (by kernel_rfl) (by intro c a d v w h; cases d <;> exact h) hw5 (fun hD => ?_)
 refine ym 0 17 (.pointer (v_1)) hD rfl rfl ?_
 obtain ⟨a6, ha6, h⟩ := h
 refine yn 1 18 ha6 hD rfl rfl <| yf 2 19 a6 5 Tryz.underlying101 ok99 hD rfl rfl rfl <| yf 4 21 a3 0 Tryz.underlying114 ok3 hD rfl rfl rfl ?_
 obtain ⟨x7, hx7, h⟩ := h
 refine yr 3 20 hx7 ok99 hD rfl rfl ?_
 obtain ⟨x8, hx8, h⟩ := h
 refine yr 5 22 hx8 ok3 hD rfl rfl ?_
 obtain ⟨m9, hm9, h⟩ := h
 refine rd_read (i := 6) (d := (some 23)) (fun W => (MapGet T156 .i64 x7 x8 W) m9) hD (by kernel_rfl) (by kernel_rfl) rfl (.free rfl) rfl (fun W hr => q_lookup2 (T := T156) (r := x7) (key := x8) (u := m9) (z := Z156) rfl Tryz.underlying99 Tryz.underlying3 (inf157) rfl rfl hr) hm9 <| ym 7 16 ((tTup2 T156 tBool).enc (((m9.getD Z156, m9.isSome)))) hD rfl rfl <| rp 8 24 hD rfl rfl rfl (fun _ => q_extract (vs := #[T156.enc (((m9.getD Z156, m9.isSome)).1), .bool (((m9.getD Z156, m9.isSome)).2)]) (v := T156.enc (((m9.getD Z156, m9.isSome)).1)) rfl rfl rfl) <| rp 9 25 hD rfl rfl rfl (fun _ => q_extract (vs := #[T156.enc (((m9.getD Z156, m9.isSome)).1), .bool (((m9.getD Z156, m9.isSome)).2)]) (v := .bool (((m9.getD Z156, m9.isSome)).2)) rfl rfl rfl) <| rd_one (i := 10) (by kernel_rfl) ?_
 obtain ⟨a10, w11, ha10, hw11, h⟩ := nw_open h
 refine po_val (d := (some 6)) rfl (.free rfl) rfl (q_alloc (u := Z156) rfl ok157 inf157 ha10 hw11) ⟨(hk_keep (fun h => keep_MapGet hw11 h) (hk_keep (fun h => keep_RdAt hw11 h) (hk_keep (fun h => keep_RdAt hw11 h) hk_nil))), ?_⟩
 refine rd_one (i := 11) (by kernel_rfl) ?_
 obtain ⟨w12, hw12, hrw12, h⟩ := st_open h
 refine po_skip (d := none) rfl (.free rfl) rfl (q_store (T := T156) (u := ((m9.getD Z156, m9.isSome)).1) (a := a10) rfl ok157 rfl rfl hrw12 hw12) ⟨(hk_wait (by kernel_rfl) (hk_wait (by kernel_rfl) (hk_wait (by kernel_rfl) hk_nil))), ?_⟩
 refine ya 12 7 (.bool (((m9.getD Z156, m9.isSome)).2)) hD rfl rfl <| rd_nil (by kernel_rfl) <| seq_join (σ := Addr × Bool) (J := fun (s : Addr × Bool) w => F82_j1 a3 a6 m9 s.1 s.2 w R) (fr := fun g (s : Addr × Bool) => upd (upd (upd (upd (upd (g) 0 (.pointer (v_1))) 3 (.pointer (some a3))) 7 (.bool (((m9.getD Z156, m9.isSome)).2))) 8 (.pointer (some s.1))) 9 (.bool (s.2))) ?_ ?_
 ·rintro ⟨has_13, open_14⟩ g w15 h
  unfold F82_j1 at h
  refine wp_seq ?_
  obtain ⟨w16, hw16, h⟩ := dr_open h
  refine wp_drawn 12 mixed rfl (by kernel_rfl) (by intro c a d v w h; cases d <;> exact h) hw16 (fun hD => ?_)
  refine ym 0 38 (.pointer (v_1)) hD rfl rfl <| yn 1 39 ha6 hD rfl rfl <| yf 2 40 a6 4 Tryz.underlying101 ok98 hD rfl rfl rfl <| yf 4 42 a3 1 Tryz.underlying114 ok3 hD rfl rfl rfl ?_
  obtain ⟨x17, hx17, h⟩ := h
  refine yr 3 41 hx17 ok98 hD rfl rfl ?_
  obtain ⟨x18, hx18, h⟩ := h
  refine yr 5 43 hx18 ok3 hD rfl rfl ?_
  obtain ⟨m19, hm19, h⟩ := h
  refine rd_read (i := 6) (d := (some 44)) (fun W => (MapGet (tInt .i64) .i64 x17 x18 W) m19) hD (by kernel_rfl) (by kernel_rfl) rfl (.free rfl) rfl (fun W hr => q_lookup2 (T := (tInt .i64)) (r := x17) (key := x18) (u := m19) (z := (0 : Int)) rfl Tryz.underlying98 Tryz.underlying3 (inf3) rfl rfl hr) hm19 <| ym 7 37 ((tTup2 (tInt .i64) tBool).enc (((m19.getD (0 : Int), m19.isSome)))) hD rfl rfl <| rp 8 45 hD rfl rfl rfl (fun _ => q_extract (vs := #[.int .i64 (((m19.getD (0 : Int), m19.isSome)).1), .bool (((m19.getD (0 : Int), m19.isSome)).2)]) (v := .int .i64 (((m19.getD (0 : Int), m19.isSome)).1)) rfl rfl rfl) <| rp 9 46 hD rfl rfl rfl (fun _ => q_extract (vs := #[.int .i64 (((m19.getD (0 : Int), m19.isSome)).1), .bool (((m19.getD (0 : Int), m19.isSome)).2)]) (v := .bool (((m19.getD (0 : Int), m19.isSome)).2)) rfl rfl rfl) <| ya 10 10 (.int .i64 (((m19.getD (0 : Int), m19.isSome)).1)) hD rfl rfl <| ya 11 11 (.bool (((m19.getD (0 : Int), m19.isSome)).2)) hD rfl rfl <| rd_nil (by kernel_rfl) <| wp_seq <| wp_block <| wp_seq <| wp_text [0, 1, 2, 3] rfl <| zf 48 a3 0 Tryz.underlying114 ok3 rfl rfl rfl ?_
  obtain ⟨x20, hx20, h⟩ := h
  refine zl 49 hx20 ok3 rfl rfl <| rv 50 rfl rfl rfl (q_lss (a := x20) (b := (1 : Int)) rfl rfl rfl) <| za 47 (.bool ((decide (x20 < (1 : Int))))) rfl rfl <| ro_nil <| zi h rfl (fun _ h => ?_) fun _ h => ?_
  ·refine wp_seq <| wp_text [0, 1] rfl <| za 4 (.int .i64 ((0 : Int))) rfl rfl <| za 5 (.int .i64 ((156 : Int))) rfl rfl <| ro_nil <| wp_ret ?_
   exact zr2 h rfl rfl
  ·refine wp_seq <| wp_text [0, 1] rfl <| zm 52 (.bool (((m9.getD Z156, m9.isSome)).2)) rfl rfl <| za 51 (.bool (((m9.getD Z156, m9.isSome)).2)) rfl rfl <| ro_nil <| zi h rfl (fun _ h => ?_) fun _ h => ?_
   ·refine wp_seq <| wp_text [0, 1] rfl <| za 4 (.int .i64 ((0 : Int))) rfl rfl <| za 5 (.int .i64 ((157 : Int))) rfl rfl <| ro_nil <| wp_ret ?_
    exact zr2 h rfl rfl
   ·refine wp_seq <| wp_text [0, 1, 2, 3, 4, 5, 6] rfl <| zm 54 (.pointer (v_1)) rfl rfl <| zn 55 ha6 rfl rfl <| zf 56 a6 5 Tryz.underlying101 ok99 rfl rfl rfl ?_
    obtain ⟨x21, hx21, h⟩ := h
    refine zl 57 hx21 ok99 rfl rfl ?_
    obtain ⟨l22, hl22, h⟩ := h
    refine rv 58 rfl rfl rfl (q_lenM (r := x21) (l := l22) rfl Tryz.underlying99 rfl hl22) <| rv 59 rfl rfl rfl (q_geq (a := (l22 : Int)) (b := (5000 : Int)) rfl rfl rfl) <| za 53 (.bool ((decide ((l22 : Int) ≥ (5000 : Int))))) rfl rfl <| ro_nil <| zi h rfl (fun _ h => ?_) fun _ h => ?_
    ·refine wp_seq <| wp_text [0, 1] rfl <| za 4 (.int .i64 ((0 : Int))) rfl rfl <| za 5 (.int .i64 ((158 : Int))) rfl rfl <| ro_nil <| wp_ret ?_
     exact zr2 h rfl rfl
    ·refine wp_seq <| wp_text [0, 1, 2, 3, 4] rfl <| zf 61 a3 1 Tryz.underlying114 ok3 rfl rfl rfl ?_
     obtain ⟨x23, hx23, h⟩ := h
     refine zl 62 hx23 ok3 rfl rfl <| zc ent53 rfl rfl h fun r25 w24 h => rv 64 rfl rfl rfl (q_not (b := r25) rfl rfl) <| za 60 (.bool ((!r25))) rfl rfl <| ro_nil <| zi h rfl (fun _ h => ?_) fun _ h => ?_
     ·refine wp_seq <| wp_text [0, 1] rfl <| za 4 (.int .i64 ((0 : Int))) rfl rfl <| za 5 (.int .i64 ((153 : Int))) rfl rfl <| ro_nil <| wp_ret ?_
      exact zr2 h rfl rfl
     ·refine wp_seq <| wp_text [0, 1, 2, 3, 4, 5, 6, 7, 8, 9] rfl <| zf 66 a3 2 Tryz.underlying114 ok2 rfl rfl rfl ?_
      obtain ⟨x26, hx26, h⟩ := h
      refine zl 67 hx26 ok2 rfl rfl <| rv 68 rfl rfl rfl (q_lss (a := x26) (b := (1 : Int)) rfl rfl rfl) <| zm 69 (.bool ((decide (x26 < (1 : Int))))) rfl rfl <| ro_join (σ := Bool) (J := fun (s : Bool) w => F82_j2 a3 a6 has_13 open_14 m19 s w R) (fr := fun g (s : Bool) => upd (upd (upd (upd (upd (upd (g) 0 (.pointer (v_1))) 3 (.pointer (some a3))) 8 (.pointer (some has_13))) 9 (.bool (open_14))) 11 (.bool (((m19.getD (0 : Int), m19.isSome)).2))) 74 (.bool (s))) [4, 5, 6, 7, 8] [9] ?_ ?_
      ·rintro t_27 g w28 h
       unfold F82_j2 at h
       refine za 65 (.bool (t_27)) rfl rfl <| ro_nil <| zi h rfl (fun _ h => ?_) fun _ h => ?_
       ·refine wp_seq <| wp_text [0, 1] rfl <| za 4 (.int .i64 ((0 : Int))) rfl rfl <| za 5 (.int .i64 ((155 : Int))) rfl rfl <| ro_nil <| wp_ret ?_
        exact zr2 h rfl rfl
       ·refine wp_seq <| wp_text [0, 1, 2] rfl <| zm 76 (.bool (open_14)) rfl rfl <| rv 77 rfl rfl rfl (q_not (b := open_14) rfl rfl) <| za 75 (.bool ((!open_14))) rfl rfl <| ro_nil <| zi h rfl (fun _ h => ?_) fun _ h => ?_
        ·refine wp_seq <| wp_text [0, 1] rfl <| za 4 (.int .i64 ((0 : Int))) rfl rfl <| za 5 (.int .i64 ((159 : Int))) rfl rfl <| ro_nil <| wp_ret ?_
         exact zr2 h rfl rfl
        ·refine wp_seq <| wp_text [0, 1] rfl <| zm 79 (.bool (((m19.getD (0 : Int), m19.isSome)).2)) rfl rfl <| za 78 (.bool (((m19.getD (0 : Int), m19.isSome)).2)) rfl rfl <| ro_nil <| zi h rfl (fun _ h => ?_) fun _ h => ?_
         ·refine wp_seq <| wp_text [0, 1] rfl <| za 4 (.int .i64 ((0 : Int))) rfl rfl <| za 5 (.int .i64 ((160 : Int))) rfl rfl <| ro_nil <| wp_ret ?_
          exact zr2 h rfl rfl
         ·refine wp_skip <| wp_seq <| wp_seq <| wp_text [0, 1, 2] rfl <| zf 80 a3 3 Tryz.underlying114 ok4 rfl rfl rfl ?_
          obtain ⟨x29, hx29, h⟩ := h
          refine zl 81 hx29 ok4 rfl rfl <| rv 82 rfl rfl rfl (q_not (b := x29) rfl rfl) <| ro_nil <| zi h rfl (fun _ h => ?_) fun _ h => ?_
          ·refine wp_seq <| wp_seq <| wp_text [0, 1, 2, 3, 4, 5, 6, 7, 8, 9] rfl <| zf 84 has_13 1 Tryz.underlying118 ok2 rfl rfl rfl ?_
           obtain ⟨x30, hx30, h⟩ := h
           refine zl 85 hx30 ok2 rfl rfl <| zf 86 a3 2 Tryz.underlying114 ok2 rfl rfl rfl ?_
           obtain ⟨x31, hx31, h⟩ := h
           refine zl 87 hx31 ok2 rfl rfl <| zc ent122 rfl rfl h fun r33 w32 h => zm 83 ((tTup2 (tInt .i64) (tInt .i64)).enc (r33)) rfl rfl <| ze 89 (.int .i64 (r33.1)) rfl rfl rfl <| ze 90 (.int .i64 (r33.2)) rfl rfl rfl <| za 12 (.int .i64 (r33.1)) rfl rfl <| za 13 (.int .i64 (r33.2)) rfl rfl <| ro_nil <| wp_seq <| wp_text [0, 1] rfl <| zm 91 (.int .i64 (r33.2)) rfl rfl <| rv 92 rfl rfl rfl (q_neq (a := r33.2) (b := (0 : Int)) rfl rfl rfl) ?_
           refine ro_nil <| zi h rfl (fun _ h => ?_) fun _ h => ?_
           ·refine wp_seq <| wp_text [0, 1] rfl <| za 4 (.int .i64 ((0 : Int))) rfl rfl <| za 5 (.int .i64 ((162 : Int))) rfl rfl <| ro_nil <| wp_ret ?_
            exact zr2 h rfl rfl
           ·refine wp_skip <| wp_seq <| wp_text [0, 1] rfl <| za 4 (.int .i64 ((0 : Int))) rfl rfl <| za 5 (.int .i64 ((0 : Int))) rfl rfl <| ro_nil <| wp_ret ?_
            exact zr2 h rfl rfl
          ·refine wp_skip <| wp_seq ?_
           obtain ⟨w35, hw35, h⟩ := dr_open h
           refine wp_drawn 12 mixed rfl (by kernel_rfl) (by intro c a d v w h; cases d <;> exact h) hw35 (fun hD => ?_)
           refine yf 0 94 a3 2 Tryz.underlying114 ok2 hD rfl rfl rfl <| ym 2 96 (.pointer (v_1)) hD rfl rfl <| yn 3 97 ha6 hD rfl rfl <| yf 4 98 a6 1 Tryz.underlying101 ok40 hD rfl rfl rfl ?_
           obtain ⟨x36, hx36, h⟩ := h
           refine yr 1 95 hx36 ok2 hD rfl rfl ?_
           obtain ⟨x37, hx37, h⟩ := h
           refine yr 5 99 hx37 ok40 hD rfl rfl <| rd_one (i := 6) (by kernel_rfl) <| po_wp rfl (.free rfl) (wp_cl (d := (some 100)) rfl (q_call (k := 123) (l := [.int .i64 (x36), .float .f64 (x37)]) rfl ent123 rfl) h ?_)
           intro r39 w38 h
           refine ⟨(hk_wait (by kernel_rfl) (hk_wait (by kernel_rfl) hk_nil)), ?_⟩
           refine ym 7 93 ((tTup2 (tInt .i64) (tInt .i64)).enc (r39)) hD rfl rfl <| rp 8 101 hD rfl rfl rfl (fun _ => q_extract (vs := #[.int .i64 (r39.1), .int .i64 (r39.2)]) (v := .int .i64 (r39.1)) rfl rfl rfl) <| rp 9 102 hD rfl rfl rfl (fun _ => q_extract (vs := #[.int .i64 (r39.1), .int .i64 (r39.2)]) (v := .int .i64 (r39.2)) rfl rfl rfl) <| ya 10 14 (.int .i64 (r39.1)) hD rfl rfl <| ya 11 15 (.int .i64 (r39.2)) hD rfl rfl <| rd_nil (by kernel_rfl) <| wp_seq <| wp_seq <| wp_text [0, 1, 2, 3, 4, 5, 6] rfl <| zf 103 has_13 1 Tryz.underlying118 ok2 rfl rfl rfl ?_
           obtain ⟨x40, hx40, h⟩ := h
           refine zl 104 hx40 ok2 rfl rfl <| zf 105 a3 2 Tryz.underlying114 ok2 rfl rfl rfl ?_
           obtain ⟨x41, hx41, h⟩ := h
           refine zl 106 hx41 ok2 rfl rfl <| zm 107 (.int .i64 (r39.1)) rfl rfl <| rv 108 rfl rfl rfl (q_add (a := x41) (b := r39.1) rfl rfl rfl) <| rv 109 rfl rfl rfl (q_lss (a := x40) (b := (IntKind.i64.wrap (x41 + r39.1))) rfl rfl rfl) <| ro_nil <| zi h rfl (fun _ h => ?_) fun _ h => ?_
           ·refine wp_seq <| wp_text [0, 1] rfl <| za 4 (.int .i64 ((0 : Int))) rfl rfl <| za 5 (.int .i64 ((161 : Int))) rfl rfl <| ro_nil <| wp_ret ?_
            exact zr2 h rfl rfl
           ·refine wp_skip <| wp_seq <| wp_text [0, 1, 2] rfl <| zm 110 (.int .i64 (r39.1)) rfl rfl <| za 4 (.int .i64 (r39.1)) rfl rfl <| za 5 (.int .i64 ((0 : Int))) rfl rfl <| ro_nil <| wp_ret ?_
            exact zr2 h rfl rfl
      ·refine ro_if (b := (decide (x26 < (1 : Int)))) h (fun hb47 h => ?_) (fun hb47 h => ?_)
       ·refine ro_bar (d := (some 70)) rfl (.by_ 3 false 69 (decide (x26 < (1 : Int))) rfl rfl rfl hb47) rfl <| ro_bar (d := (some 71)) rfl (.by_ 3 false 69 (decide (x26 < (1 : Int))) rfl rfl rfl hb47) rfl <| ro_bar (d := (some 72)) rfl (.by_ 3 false 69 (decide (x26 < (1 : Int))) rfl rfl rfl hb47) rfl <| ro_bar (d := (some 73)) rfl (.by_ 3 false 69 (decide (x26 < (1 : Int))) rfl rfl rfl hb47) rfl <| rv 74 rfl rfl rfl (q_pickT (v := .bool (true)) (b := (decide (x26 < (1 : Int)))) rfl rfl hb47 rfl) <| ro_nil ?_
        exact ⟨(true), _, arr (upd_step (upd_step (upd_step (upd_step (upd_step (upd_step rfl rfl) rfl) rfl) rfl) rfl) rfl), h⟩
       ·refine ro_val (d := (some 70)) rfl (.by_ 3 false 69 (decide (x26 < (1 : Int))) rfl rfl rfl hb47) rfl (q_fieldAddr (a := a3) (off := 2) rfl Tryz.underlying114 rfl rfl ok2 (by decide) rfl) ?_
        obtain ⟨x48, hx48, h⟩ := h
        refine ro_val (d := (some 71)) rfl (.by_ 3 false 69 (decide (x26 < (1 : Int))) rfl rfl rfl hb47) rfl (q_load (T := (tInt .i64)) (u := x48) (a := (a3.add 2)) rfl ok2 rfl hx48) <| ro_wp rfl (.by_ 3 false 69 (decide (x26 < (1 : Int))) rfl rfl rfl hb47) (wp_cl (d := (some 72)) rfl (q_call (k := 54) (l := [.int .i64 (x48)]) rfl ent54 rfl) h ?_)
        intro r50 w49 h
        refine ro_val (d := (some 73)) rfl (.by_ 3 false 69 (decide (x26 < (1 : Int))) rfl rfl rfl hb47) rfl (q_neq (a := r50) (b := (0 : Int)) rfl rfl rfl) <| rv 74 rfl rfl rfl (q_pickF (v := .bool ((r50 != (0 : Int)))) (b := (decide (x26 < (1 : Int)))) rfl rfl hb47 rfl) <| ro_nil ?_
        exact ⟨((r50 != (0 : Int))), _, arr (upd_step (upd_step (upd_step (upd_step (upd_step (upd_step rfl rfl) rfl) rfl) rfl) rfl) rfl), h⟩
 ·obtain ⟨w55, hw55, h⟩ := dr_open h
  refine wp_drawn 14 mixed rfl (by kernel_rfl) (by intro c a d v w h; cases d <;> exact h) hw55 (fun hD => ?_)
  refine ym 0 27 (.pointer (v_1)) hD rfl rfl <| yn 1 28 ha6 hD rfl rfl <| yf 2 29 a6 0 Tryz.underlying101 ok96 hD rfl rfl rfl <| yf 3 30 (a6.add 0) 0 Tryz.underlying96 ok94 hD rfl rfl rfl <| yf 5 32 a3 1 Tryz.underlying114 ok3 hD rfl rfl rfl ?_
  obtain ⟨x56, hx56, h⟩ := h
  refine yr 4 31 hx56 ok94 hD rfl rfl ?_
  obtain ⟨x57, hx57, h⟩ := h
  refine yr 6 33 hx57 ok3 hD rfl rfl ?_
  obtain ⟨h, h'⟩ := h
  refine rd_two (i := 7) (j := 11) (by kernel_rfl) ?_ ?_
  ·clear h'
   refine po_wp rfl (.free rfl) (wp_cl (d := (some 34)) rfl (q_call (k := 52) (l := [.pointer (x56), .int .i64 (x57)]) rfl ent52 rfl) h ?_)
   intro r59 w58 h
   refine ⟨(hk_wait (by kernel_rfl) (hk_wait (by kernel_rfl) hk_nil)), ?_⟩
   refine ym 8 26 ((tTup2 T117 tBool).enc (r59)) hD rfl rfl <| rp 9 35 hD rfl rfl rfl (fun _ => q_extract (vs := #[T117.enc (r59.1), .bool (r59.2)]) (v := T117.enc (r59.1)) rfl rfl rfl) <| rp 10 36 hD rfl rfl rfl (fun _ => q_extract (vs := #[T117.enc (r59.1), .bool (r59.2)]) (v := .bool (r59.2)) rfl rfl rfl) <| rd_one (i := 11) (by kernel_rfl) ?_
   obtain ⟨a60, w61, ha60, hw61, h⟩ := nw_open h
   refine po_val (d := (some 8)) rfl (.free rfl) rfl (q_alloc (u := Z117) rfl ok118 inf118 ha60 hw61) ⟨(hk_keep (fun h => keep_RdAt hw61 h) (hk_keep (fun h => keep_RdAt hw61 h) hk_nil)), ?_⟩
   refine rd_one (i := 12) (by kernel_rfl) ?_
   obtain ⟨w62, hw62, hrw62, h⟩ := st_open h
   refine po_skip (d := none) rfl (.free rfl) rfl (q_store (T := T117) (u := r59.1) (a := a60) rfl ok118 rfl rfl hrw62 hw62) ⟨(hk_wait (by kernel_rfl) (hk_wait (by kernel_rfl) hk_nil)), ?_⟩
   refine ya 13 9 (.bool (r59.2)) hD rfl rfl <| rd_nil (by kernel_rfl) ?_
   exact ⟨(a60, r59.2), _, arr (upd_step (upd_step (upd_step (upd_step (upd_step rfl rfl) rfl) rfl) rfl) rfl), h⟩
  ·replace h := h'; clear h'
   obtain ⟨a63, w64, ha63, hw64, h⟩ := nw_open h
   refine po_val (d := (some 8)) rfl (.free rfl) rfl (q_alloc (u := Z117) rfl ok118 inf118 ha63 hw64) ⟨(hk_keep (fun h => keep_RdAt hw64 h) (hk_keep (fun h => keep_RdAt hw64 h) hk_nil)), ?_⟩
   refine rd_one (i := 7) (by kernel_rfl) <| po_wp rfl (.free rfl) (wp_cl (d := (some 34)) rfl (q_call (k := 52) (l := [.pointer (x56), .int .i64 (x57)]) rfl ent52 rfl) h ?_)
   intro r66 w65 h
   refine ⟨(hk_wait (by kernel_rfl) (hk_wait (by kernel_rfl) hk_nil)), ?_⟩
   refine ym 8 26 ((tTup2 T117 tBool).enc (r66)) hD rfl rfl <| rp 9 35 hD rfl rfl rfl (fun _ => q_extract (vs := #[T117.enc (r66.1), .bool (r66.2)]) (v := T117.enc (r66.1)) rfl rfl rfl) <| rp 10 36 hD rfl rfl rfl (fun _ => q_extract (vs := #[T117.enc (r66.1), .bool (r66.2)]) (v := .bool (r66.2)) rfl rfl rfl) <| rd_one (i := 12) (by kernel_rfl) ?_
   obtain ⟨w67, hw67, hrw67, h⟩ := st_open h
   refine po_skip (d := none) rfl (.free rfl) rfl (q_store (T := T117) (u := r66.1) (a := a63) rfl ok118 rfl rfl hrw67 hw67) ⟨(hk_wait (by kernel_rfl) (hk_wait (by kernel_rfl) hk_nil)), ?_⟩
   refine ya 13 9 (.bool (r66.2)) hD rfl rfl <| rd_nil (by kernel_rfl) ?_
   exact ⟨(a63, r66.2), _, arr (upd_step (upd_step (upd_step (upd_step (upd_step rfl rfl) rfl) rfl) rfl) rfl), h⟩
end Go.Proofs.YtehclfjjjiiieaaGreat.Cf
namespace Go.Proofs.YtehclfjjjiiieaaGreat.Cf
open Go
set_option maxRecDepth 100000
set_option maxHeartbeats 1000000
set_option linter.unusedVariables false
set_option linter.unusedSimpArgs false
def F83_j1 (l_23 : Slc) (w24 : World) (R : Slc → World → Prop) : Prop :=
 R l_23 w24
def F83 (v_1 : (Option Addr)) (h_2 : S150) (w : World) (R : Slc → World → Prop) : Prop :=
 nw 151 T150 h_2 w fun a3 w4 =>
 ex (RdAt (tInt .i64) ((a3.add 0).add 1) w4) fun x5 =>
 ex (NC v_1) fun a6 =>
 ex (RdAt tPtr ((a6.add 0).add 0) w4) fun x7 =>
 cl Tryz.prog 52 [.pointer (x7), .int .i64 (x5)] (tTup2 T117 tBool) w4 fun r9 w8 =>
 nw 118 T117 Z117 w8 fun a10 w11 =>
 st T117 a10 r9.1 w11 fun w12 =>
 ex (RdAt tBool ((a3.add 0).add 3) w12) fun x13 =>
 if (!x13) = true then (
  ex (RdAt (tInt .i64) (a10.add 1) w12) fun x14 =>
  ex (RdAt (tInt .i64) ((a3.add 0).add 2) w12) fun x15 =>
  nwS 123 T122 [(⟨x5, (IntKind.i64.wrap (x14 + x15))⟩ : S122)] w12 fun a16 w17 =>
  R (⟨some a16, 1, 1⟩ : Slc) w17
 ) else (
  ex (RdAt (tInt .i64) (a10.add 1) w12) fun x18 =>
  ex (RdAt (tInt .i64) ((a3.add 0).add 2) w12) fun x19 =>
  ex (RdAt (tInt .i64) (a3.add 5) w12) fun x20 =>
  nwS 123 T122 [(⟨x5, (IntKind.i64.wrap ((IntKind.i64.wrap (x18 - x19)) - x20))⟩ : S122)] w12 fun a21 w22 =>
  ex (RdAt (tInt .i64) (a3.add 5) w22) fun x25 =>
  if (decide (x25 > (0 : Int))) = true then (
   ex (RdAt tPtr ((a6.add 0).add 0) w22) fun x26 =>
   cl Tryz.prog 52 [.pointer (x26), .int .i64 ((IntKind.i64.wrap ((4096 : Int) + x5)))] (tTup2 T117 tBool) w22 fun r28 w27 =>
   nw 118 T117 Z117 w27 fun a29 w30 =>
   st T117 a29 r28.1 w30 fun w31 =>
   ex (RdAt (tInt .i64) (a29.add 1) w31) fun x32 =>
   ex (RdAt (tInt .i64) (a3.add 5) w31) fun x33 =>
   apl 123 T122 2 16 (⟨some a21, 1, 1⟩ : Slc) [(⟨(IntKind.i64.wrap ((4096 : Int) + x5)), (IntKind.i64.wrap (x32 + x33))⟩ : S122)] w31 fun r37 w36 =>
   F83_j1 r37 w36 R
  ) else (
   F83_j1 (⟨some a21, 1, 1⟩ : Slc) w22 R
  )
 )
theorem F83_ok {v_1 : (Option Addr)} {h_2 : S150} {w : World} {R : Slc → World → Prop} (h : F83 v_1 h_2 w R) : cl Tryz.prog 83 [.pointer (v_1), T150.enc (h_2)] tSlc w R := by
 unfold F83 at h
 refine calls_start 75 Tryz.func83 rfl rfl (Nat.le_of_ble_eq_true rfl) <| wp_seq <| wp_text [0, 1] rfl ?_
 obtain ⟨a3, w4, ha3, hw4, h⟩ := nw_open h
 refine rv 3 rfl rfl rfl (q_box (u := h_2) rfl ok151 rfl ha3 hw4) <| za 4 (tSlc.enc ((⟨none, 0, 0⟩ : Slc))) rfl rfl <| ro_nil <| wp_seq <| wp_text [0, 1, 2, 3] rfl <| zf 11 a3 0 Tryz.underlying151 ok114 rfl rfl rfl <| zf 12 (a3.add 0) 1 Tryz.underlying114 ok3 rfl rfl rfl ?_
 obtain ⟨x5, hx5, h⟩ := h
 refine zl 13 hx5 ok3 rfl rfl <| za 5 (.int .i64 (x5)) rfl rfl <| ro_nil <| wp_seq <| wp_text [0, 1, 2, 3, 4, 5, 6, 7, 8, 9, 10, 11, 12] rfl <| zm 15 (.pointer (v_1)) rfl rfl ?_
 obtain ⟨a6, ha6, h⟩ := h
 refine zn 16 ha6 rfl rfl <| zf 17 a6 0 Tryz.underlying101 ok96 rfl rfl rfl <| zf 18 (a6.add 0) 0 Tryz.underlying96 ok94 rfl rfl rfl ?_
 obtain ⟨x7, hx7, h⟩ := h
 refine zl 19 hx7 ok94 rfl rfl <| zm 20 (.int .i64 (x5)) rfl rfl <| zc ent52 rfl rfl h fun r9 w8 h => zm 14 ((tTup2 T117 tBool).enc (r9)) rfl rfl <| ze 22 (T117.enc (r9.1)) rfl rfl rfl <| ze 23 (.bool (r9.2)) rfl rfl rfl ?_
 obtain ⟨a10, w11, ha10, hw11, h⟩ := nw_open h
 refine rv 6 rfl rfl rfl (q_alloc (u := Z117) rfl ok118 inf118 ha10 hw11) ?_
 obtain ⟨w12, hw12, hrw12, h⟩ := st_open h
 refine ro_skip (d := none) rfl (.free rfl) rfl (q_store (T := T117) (u := r9.1) (a := a10) rfl ok118 rfl rfl hrw12 hw12) <| za 7 (.bool (r9.2)) rfl rfl <| ro_nil <| wp_seq <| wp_seq <| wp_text [0, 1, 2, 3] rfl <| zf 24 a3 0 Tryz.underlying151 ok114 rfl rfl rfl <| zf 25 (a3.add 0) 3 Tryz.underlying114 ok4 rfl rfl rfl ?_
 obtain ⟨x13, hx13, h⟩ := h
 refine zl 26 hx13 ok4 rfl rfl <| rv 27 rfl rfl rfl (q_not (b := x13) rfl rfl) <| ro_nil <| zi h rfl (fun _ h => ?_) fun _ h => ?_
 ·refine wp_seq <| wp_text [0, 1, 2, 3, 4, 5, 6, 7, 8, 9] rfl <| zm 28 (.int .i64 (x5)) rfl rfl <| zf 29 a10 1 Tryz.underlying118 ok2 rfl rfl rfl ?_
  obtain ⟨x14, hx14, h⟩ := h
  refine zl 30 hx14 ok2 rfl rfl <| zf 31 a3 0 Tryz.underlying151 ok114 rfl rfl rfl <| zf 32 (a3.add 0) 2 Tryz.underlying114 ok2 rfl rfl rfl ?_
  obtain ⟨x15, hx15, h⟩ := h
  refine zl 33 hx15 ok2 rfl rfl <| rv 34 rfl rfl rfl (q_add (a := x14) (b := x15) rfl rfl rfl) <| rv 35 rfl rfl rfl (q_build123_0_1 (v0 := x5) (v1 := (IntKind.i64.wrap (x14 + x15))) rfl rfl rfl) ?_
  obtain ⟨a16, w17, ha16, hw17, h⟩ := nwS_open h
  refine rv 36 rfl rfl rfl (q_rowOf (T := T122) (xs := [(⟨x5, (IntKind.i64.wrap (x14 + x15))⟩ : S122)]) rfl Tryz.underlying108 ok123 inf123 rfl (by decide) (by decide) rfl ha16 hw17) <| za 4 (tSlc.enc ((⟨some a16, 1, 1⟩ : Slc))) rfl rfl <| ro_nil <| wp_ret ?_
  exact zr1 h rfl rfl
 ·refine wp_skip <| wp_seq <| wp_text [0, 1, 2, 3, 4, 5, 6, 7, 8, 9, 10, 11, 12] rfl <| zm 37 (.int .i64 (x5)) rfl rfl <| zf 38 a10 1 Tryz.underlying118 ok2 rfl rfl rfl ?_
  obtain ⟨x18, hx18, h⟩ := h
  refine zl 39 hx18 ok2 rfl rfl <| zf 40 a3 0 Tryz.underlying151 ok114 rfl rfl rfl <| zf 41 (a3.add 0) 2 Tryz.underlying114 ok2 rfl rfl rfl ?_
  obtain ⟨x19, hx19, h⟩ := h
  refine zl 42 hx19 ok2 rfl rfl <| rv 43 rfl rfl rfl (q_sub (a := x18) (b := x19) rfl rfl rfl) <| zf 44 a3 5 Tryz.underlying151 ok2 rfl rfl rfl ?_
  obtain ⟨x20, hx20, h⟩ := h
  refine zl 45 hx20 ok2 rfl rfl <| rv 46 rfl rfl rfl (q_sub (a := (IntKind.i64.wrap (x18 - x19))) (b := x20) rfl rfl rfl) <| rv 47 rfl rfl rfl (q_build123_0_1 (v0 := x5) (v1 := (IntKind.i64.wrap ((IntKind.i64.wrap (x18 - x19)) - x20))) rfl rfl rfl) ?_
  obtain ⟨a21, w22, ha21, hw22, h⟩ := nwS_open h
  refine rv 48 rfl rfl rfl (q_rowOf (T := T122) (xs := [(⟨x5, (IntKind.i64.wrap ((IntKind.i64.wrap (x18 - x19)) - x20))⟩ : S122)]) rfl Tryz.underlying108 ok123 inf123 rfl (by decide) (by decide) rfl ha21 hw22) <| za 8 (tSlc.enc ((⟨some a21, 1, 1⟩ : Slc))) rfl rfl <| ro_nil <| seq_join (σ := Slc) (J := fun (s : Slc) w => F83_j1 s w R) (fr := fun g (s : Slc) => upd (g) 8 (tSlc.enc (s))) ?_ ?_
  ·rintro l_23 g w24 h
   unfold F83_j1 at h
   refine wp_seq <| wp_text [0, 1] rfl <| zm 74 (tSlc.enc (l_23)) rfl rfl <| za 4 (tSlc.enc (l_23)) rfl rfl <| ro_nil <| wp_ret ?_
   exact zr1 h rfl rfl
  ·refine wp_seq <| wp_text [0, 1, 2] rfl <| zf 49 a3 5 Tryz.underlying151 ok2 rfl rfl rfl ?_
   obtain ⟨x25, hx25, h⟩ := h
   refine zl 50 hx25 ok2 rfl rfl <| rv 51 rfl rfl rfl (q_gtr (a := x25) (b := (0 : Int)) rfl rfl rfl) <| ro_nil <| zi h rfl (fun _ h => ?_) fun _ h => ?_
   ·refine wp_seq <| wp_text [0, 1, 2, 3, 4, 5, 6, 7, 8, 9, 10, 11, 12, 13] rfl <| zm 53 (.pointer (v_1)) rfl rfl <| zn 54 ha6 rfl rfl <| zf 55 a6 0 Tryz.underlying101 ok96 rfl rfl rfl <| zf 56 (a6.add 0) 0 Tryz.underlying96 ok94 rfl rfl rfl ?_
    obtain ⟨x26, hx26, h⟩ := h
    refine zl 57 hx26 ok94 rfl rfl <| zm 58 (.int .i64 (x5)) rfl rfl <| rv 59 rfl rfl rfl (q_add (a := (4096 : Int)) (b := x5) rfl rfl rfl) <| zc ent52 rfl rfl h fun r28 w27 h => zm 52 ((tTup2 T117 tBool).enc (r28)) rfl rfl <| ze 61 (T117.enc (r28.1)) rfl rfl rfl <| ze 62 (.bool (r28.2)) rfl rfl rfl ?_
    obtain ⟨a29, w30, ha29, hw30, h⟩ := nw_open h
    refine rv 9 rfl rfl rfl (q_alloc (u := Z117) rfl ok118 inf118 ha29 hw30) ?_
    obtain ⟨w31, hw31, hrw31, h⟩ := st_open h
    refine ro_skip (d := none) rfl (.free rfl) rfl (q_store (T := T117) (u := r28.1) (a := a29) rfl ok118 rfl rfl hrw31 hw31) <| za 10 (.bool (r28.2)) rfl rfl <| ro_nil <| wp_text [0, 1, 2, 3, 4, 5, 6, 7, 8, 9, 10, 11] rfl <| zm 63 (tSlc.enc ((⟨some a21, 1, 1⟩ : Slc))) rfl rfl <| zm 64 (.int .i64 (x5)) rfl rfl <| rv 65 rfl rfl rfl (q_add (a := (4096 : Int)) (b := x5) rfl rfl rfl) <| zf 66 a29 1 Tryz.underlying118 ok2 rfl rfl rfl ?_
    obtain ⟨x32, hx32, h⟩ := h
    refine zl 67 hx32 ok2 rfl rfl <| zf 68 a3 5 Tryz.underlying151 ok2 rfl rfl rfl ?_
    obtain ⟨x33, hx33, h⟩ := h
    refine zl 69 hx33 ok2 rfl rfl <| rv 70 rfl rfl rfl (q_add (a := x32) (b := x33) rfl rfl rfl) <| rv 71 rfl rfl rfl (q_build123_0_1 (v0 := (IntKind.i64.wrap ((4096 : Int) + x5))) (v1 := (IntKind.i64.wrap (x32 + x33))) rfl rfl rfl) ?_
    obtain ⟨a34, w35, ha34, hw35, h⟩ := apl_open h
    refine rv 72 rfl rfl rfl (q_rowOf (T := T122) (xs := [(⟨(IntKind.i64.wrap ((4096 : Int) + x5)), (IntKind.i64.wrap (x32 + x33))⟩ : S122)]) rfl Tryz.underlying108 ok123 inf123 rfl (by decide) (by decide) rfl ha34 hw35) <| ro_wp rfl (.free rfl) (wp_append (d := (some 73)) (T := T122) rfl rfl Tryz.underlying108 ⟨_, Tryz.underlying108⟩ ok123 inf123 rfl rfl (Nat.lt_of_lt_of_le Nat.zero_lt_one (Nat.le_of_ble_eq_true rfl)) rfl rfl h ?_)
    intro r37 w36 h
    refine za 8 (tSlc.enc (r37)) rfl rfl <| ro_nil ?_
    exact ⟨(r37), _, arr (upd_step rfl rfl), h⟩
   ·refine wp_skip ?_
    exact ⟨((⟨some a21, 1, 1⟩ : Slc)), _, arr (upd_step rfl rfl), h⟩
def F84 (v_1 : (Option Addr)) (h_2 : S150) (w : World) (R : Unit → World → Prop) : Prop :=
 nw 151 T150 h_2 w fun a3 w4 =>
 dr w4 fun w5 =>
 ex (NC v_1) fun a6 =>
 ex (RdAt tMap (a6.add 3) w5) fun x7 =>
 ex (RdAt (tInt .i64) ((a3.add 0).add 0) w5) fun x8 =>
 mdel T150 .i64 x7 x8 w5 fun w9 =>
 dr w9 fun w10 =>
 ex (RdAt tMap (a6.add 4) w10) fun x11 =>
 ex (RdAt (tInt .i64) ((a3.add 0).add 1) w10) fun x12 =>
 mdel (tInt .i64) .i64 x11 x12 w10 fun w13 =>
 R () w13
theorem F84_ok {v_1 : (Option Addr)} {h_2 : S150} {w : World} {R : Unit → World → Prop} (h : F84 v_1 h_2 w R) : cl Tryz.prog 84 [.pointer (v_1), T150.enc (h_2)] tUnit w R := by
 unfold F84 at h
 refine calls_start 18 Tryz.func84 rfl rfl (Nat.le_of_ble_eq_true rfl) <| wp_seq <| wp_text [0] rfl ?_
 obtain ⟨a3, w4, ha3, hw4, h⟩ := nw_open h
 refine rv 3 rfl rfl rfl (q_box (u := h_2) rfl ok151 rfl ha3 hw4) <| ro_nil <| wp_seq ?_
 obtain ⟨w5, hw5, h⟩ := dr_open h
 refine wp_drawn 8 mixed rfl (by kernel_rfl) (by intro c a d v w h; cases d <;> exact h) hw5 (fun hD => ?_)
 refine ym 0 4 (.pointer (v_1)) hD rfl rfl ?_
 obtain ⟨a6, ha6, h⟩ := h
 refine yn 1 5 ha6 hD rfl rfl <| yf 2 6 a6 3 Tryz.underlying101 ok97 hD rfl rfl rfl <| yf 4 8 a3 0 Tryz.underlying151 ok114 hD rfl rfl rfl <| yf 5 9 (a3.add 0) 0 Tryz.underlying114 ok3 hD rfl rfl rfl ?_
 obtain ⟨x7, hx7, h⟩ := h
 refine yr 3 7 hx7 ok97 hD rfl rfl ?_
 obtain ⟨x8, hx8, h⟩ := h
 refine yr 6 10 hx8 ok3 hD rfl rfl <| rd_one (i := 7) (by kernel_rfl) <| po_wp rfl (.free rfl) (wp_mdel (T := T150) (r := x7) (key := x8) (d := none) rfl rfl Tryz.underlying97 Tryz.underlying3 rfl rfl h ?_)
 intro w9 h
 refine ⟨(hk_wait (by kernel_rfl) (hk_wait (by kernel_rfl) hk_nil)), ?_⟩
 refine rd_nil (by kernel_rfl) ?_
 obtain ⟨w10, hw10, h⟩ := dr_open h
 refine wp_drawn 8 mixed rfl (by kernel_rfl) (by intro c a d v w h; cases d <;> exact h) hw10 (fun hD => ?_)
 refine ym 0 11 (.pointer (v_1)) hD rfl rfl <| yn 1 12 ha6 hD rfl rfl <| yf 2 13 a6 4 Tryz.underlying101 ok98 hD rfl rfl rfl <| yf 4 15 a3 0 Tryz.underlying151 ok114 hD rfl rfl rfl <| yf 5 16 (a3.add 0) 1 Tryz.underlying114 ok3 hD rfl rfl rfl ?_
 obtain ⟨x11, hx11, h⟩ := h
 refine yr 3 14 hx11 ok98 hD rfl rfl ?_
 obtain ⟨x12, hx12, h⟩ := h
 refine yr 6 17 hx12 ok3 hD rfl rfl <| rd_one (i := 7) (by kernel_rfl) <| po_wp rfl (.free rfl) (wp_mdel (T := (tInt .i64)) (r := x11) (key := x12) (d := none) rfl rfl Tryz.underlying98 Tryz.underlying3 rfl rfl h ?_)
 intro w13 h
 refine ⟨(hk_wait (by kernel_rfl) (hk_wait (by kernel_rfl) hk_nil)), ?_⟩
 refine rd_nil (by kernel_rfl) ?_
 exact end_ok rfl .nil ⟨(), rfl, h⟩
def F85 (t_1 : Int) (w : World) (R : Bool → World → Prop) : Prop :=
 R ((decide (t_1 ≥ (0 : Int))) && (decide (t_1 ≤ (1125899906842624 : Int)))) w
theorem F85_ok {t_1 : Int} {w : World} {R : Bool → World → Prop} (h : F85 t_1 w R) : cl Tryz.prog 85 [.int .i64 (t_1)] tBool w R := by
 unfold F85 at h
 refine calls_start 9 Tryz.func85 rfl rfl (Nat.le_of_ble_eq_true rfl) <| wp_seq <| wp_text [0] rfl <| za 2 (.bool (false)) rfl rfl <| ro_nil <| wp_seq <| wp_text [0, 1, 2, 3, 4, 5, 6] rfl <| zm 3 (.int .i64 (t_1)) rfl rfl <| rv 4 rfl rfl rfl (q_geq (a := t_1) (b := (0 : Int)) rfl rfl rfl) <| zm 5 (.bool ((decide (t_1 ≥ (0 : Int))))) rfl rfl <| ro_gval (g := (decide (t_1 ≥ (0 : Int)))) (d := (some 6)) rfl (.yes 2 5 true (decide (t_1 ≥ (0 : Int))) rfl rfl rfl rfl) rfl (fun hg => q_move (v := .int .i64 (t_1)) rfl rfl) <| ro_gval (g := (decide (t_1 ≥ (0 : Int)))) (d := (some 7)) rfl (.yes 2 5 true (decide (t_1 ≥ (0 : Int))) rfl rfl rfl rfl) rfl (fun hg => q_leq (k := .i64) (a := t_1) (b := (1125899906842624 : Int)) rfl (gvb_yes hg) rfl) ?_
 refine rv 8 rfl rfl rfl (q_pickGT (a := (decide (t_1 ≥ (0 : Int)))) (b := (decide (t_1 ≤ (1125899906842624 : Int)))) rfl rfl rfl rfl) <| za 2 (.bool (((decide (t_1 ≥ (0 : Int))) && (decide (t_1 ≤ (1125899906842624 : Int)))))) rfl rfl <| ro_nil <| wp_ret ?_
 exact zr1 h rfl rfl
def F86 (s_1 : (Option Addr)) (t_2 : Int) (w : World) (R : Int → World → Prop) : Prop :=
 cl Tryz.prog 124 [.int .i64 (t_2)] tBool w fun r4 w3 =>
 if (!r4) = true then (
  R (120 : Int) w3
 ) else (
  ex (NC s_1) fun a5 =>
  ex (RdAt (tInt .i64) (a5.add 1) w3) fun x6 =>
  st (tInt .i64) (a5.add 1) (max x6 t_2) w3 fun w7 =>
  R (0 : Int) w7
 )
theorem F86_ok {s_1 : (Option Addr)} {t_2 : Int} {w : World} {R : Int → World → Prop} (h : F86 s_1 t_2 w R) : cl Tryz.prog 86 [.pointer (s_1), .int .i64 (t_2)] (tInt .i64) w R := by
 unfold F86 at h
 refine calls_start 17 Tryz.func86 rfl rfl (Nat.le_of_ble_eq_true rfl) <| wp_seq <| wp_text [0] rfl <| za 4 (.int .i64 ((0 : Int))) rfl rfl <| ro_nil <| wp_seq <| wp_seq <| wp_text [0, 1, 2] rfl <| zm 5 (.int .i64 (t_2)) rfl rfl <| zc ent124 rfl rfl h fun r4 w3 h => rv 7 rfl rfl rfl (q_not (b := r4) rfl rfl) <| ro_nil ?_
 refine zi h rfl (fun _ h => ?_) fun _ h => ?_
 ·refine wp_seq <| wp_text [0] rfl <| za 4 (.int .i64 ((120 : Int))) rfl rfl <| ro_nil <| wp_ret ?_
  exact zr1 h rfl rfl
 ·refine wp_skip <| wp_seq <| wp_text [0, 1, 2, 3, 4, 5, 6, 7, 8, 9] rfl <| zm 8 (.pointer (s_1)) rfl rfl <| zm 9 (.pointer (s_1)) rfl rfl ?_
  obtain ⟨a5, ha5, h⟩ := h
  refine zn 10 ha5 rfl rfl <| zf 11 a5 1 Tryz.underlying169 ok2 rfl rfl rfl ?_
  obtain ⟨x6, hx6, h⟩ := h
  refine zl 12 hx6 ok2 rfl rfl <| zm 13 (.int .i64 (t_2)) rfl rfl <| rv 14 rfl rfl rfl (q_max (a := x6) (b := t_2) rfl rfl rfl) <| zn 15 ha5 rfl rfl <| zf 16 a5 1 Tryz.underlying169 ok2 rfl rfl rfl ?_
  obtain ⟨w7, hw7, hrw7, h⟩ := st_open h
  refine ro_skip (d := none) rfl (.free rfl) rfl (q_store (T := (tInt .i64)) (u := (max x6 t_2)) (a := (a5.add 1)) rfl ok2 rfl rfl hrw7 hw7) <| ro_nil <| wp_seq <| wp_text [0] rfl <| za 4 (.int .i64 ((0 : Int))) rfl rfl <| ro_nil <| wp_ret ?_
  exact zr1 h rfl rfl
def F87_l1 (a5 : Addr) (a11 : Addr) (w12 : World) (K13 : Unit → World → Prop) (R : Int → World → Prop) : Prop :=
 nxt a11 w12 fun q15 w14 =>
 if (Option.isSome q15) = true then (
  ex (Ent tPtr .i64 a11 w14) fun e16 =>
  ex (RdAt (tInt .i64) (a5.add 2) w14) fun x17 =>
  cl Tryz.prog 125 [.pointer (e16.2), .int .i64 (x17)] (tInt .i64) w14 fun r19 w18 =>
  K13 () w18
 ) else (
  R (0 : Int) w14
 )
def F87 (s_1 : (Option Addr)) (mark_2 : Int) (w : World) (R : Int → World → Prop) : Prop :=
 cl Tryz.prog 124 [.int .i64 (mark_2)] tBool w fun r4 w3 =>
 if (!r4) = true then (
  R (120 : Int) w3
 ) else (
  ex (NC s_1) fun a5 =>
  ex (RdAt (tInt .i64) (a5.add 1) w3) fun x6 =>
  if (decide (mark_2 > x6)) = true then (
   R (128 : Int) w3
  ) else (
   ex (RdAt (tInt .i64) (a5.add 2) w3) fun x7 =>
   st (tInt .i64) (a5.add 2) (max x7 mark_2) w3 fun w8 =>
   ex (RdAt tMap (a5.add 0) w8) fun x9 =>
   rng x9 w8 fun a11 w10 =>
   lp (fun (s : Unit) w K => F87_l1 a5 a11 w K R) () w10
  )
 )
theorem F87_ok {s_1 : (Option Addr)} {mark_2 : Int} {w : World} {R : Int → World → Prop} (h : F87 s_1 mark_2 w R) : cl Tryz.prog 87 [.pointer (s_1), .int .i64 (mark_2)] (tInt .i64) w R := by
 unfold F87 at h
 refine calls_start 42 Tryz.func87 rfl rfl (Nat.le_of_ble_eq_true rfl) <| wp_seq <| wp_text [0] rfl <| za 4 (.int .i64 ((0 : Int))) rfl rfl <| ro_nil <| wp_seq <| wp_block <| wp_seq <| wp_text [0, 1, 2, 3] rfl <| zm 8 (.int .i64 (mark_2)) rfl rfl <| zc ent124 rfl rfl h fun r4 w3 h => rv 10 rfl rfl rfl (q_not (b := r4) rfl rfl) ?_
 refine za 7 (.bool ((!r4))) rfl rfl <| ro_nil <| zi h rfl (fun _ h => ?_) fun _ h => ?_
 ·refine wp_seq <| wp_text [0] rfl <| za 4 (.int .i64 ((120 : Int))) rfl rfl <| ro_nil <| wp_ret ?_
  exact zr1 h rfl rfl
 ·refine wp_seq <| wp_text [0, 1, 2, 3, 4, 5, 6] rfl <| zm 12 (.int .i64 (mark_2)) rfl rfl <| zm 13 (.pointer (s_1)) rfl rfl ?_
  obtain ⟨a5, ha5, h⟩ := h
  refine zn 14 ha5 rfl rfl <| zf 15 a5 1 Tryz.underlying169 ok2 rfl rfl rfl ?_
  obtain ⟨x6, hx6, h⟩ := h
  refine zl 16 hx6 ok2 rfl rfl <| rv 17 rfl rfl rfl (q_gtr (a := mark_2) (b := x6) rfl rfl rfl) <| za 11 (.bool ((decide (mark_2 > x6)))) rfl rfl <| ro_nil <| zi h rfl (fun _ h => ?_) fun _ h => ?_
  ·refine wp_seq <| wp_text [0] rfl <| za 4 (.int .i64 ((128 : Int))) rfl rfl <| ro_nil <| wp_ret ?_
   exact zr1 h rfl rfl
  ·refine wp_skip <| wp_seq <| wp_text [0, 1, 2, 3, 4, 5, 6, 7, 8, 9] rfl <| zm 18 (.pointer (s_1)) rfl rfl <| zm 19 (.pointer (s_1)) rfl rfl <| zn 20 ha5 rfl rfl <| zf 21 a5 2 Tryz.underlying169 ok2 rfl rfl rfl ?_
   obtain ⟨x7, hx7, h⟩ := h
   refine zl 22 hx7 ok2 rfl rfl <| zm 23 (.int .i64 (mark_2)) rfl rfl <| rv 24 rfl rfl rfl (q_max (a := x7) (b := mark_2) rfl rfl rfl) <| zn 25 ha5 rfl rfl <| zf 26 a5 2 Tryz.underlying169 ok2 rfl rfl rfl ?_
   obtain ⟨w8, hw8, hrw8, h⟩ := st_open h
   refine ro_skip (d := none) rfl (.free rfl) rfl (q_store (T := (tInt .i64)) (u := (max x7 mark_2)) (a := (a5.add 2)) rfl ok2 rfl rfl hrw8 hw8) <| ro_nil <| wp_seq <| wp_seq <| wp_text [0, 1, 2, 3, 4] rfl <| zm 27 (.pointer (s_1)) rfl rfl <| zn 28 ha5 rfl rfl <| zf 29 a5 0 Tryz.underlying169 ok167 rfl rfl rfl ?_
   obtain ⟨x9, hx9, h⟩ := h
   refine zl 30 hx9 ok167 rfl rfl <| ro_wp rfl (.free rfl) (wp_rng (r := x9) (d := (some 31)) rfl rfl Tryz.underlying167 rfl h ?_)
   intro a11 w10 h
   refine ro_nil <| wp_block <| loop_at (σ := Unit) (fr := fun g (s : Unit) => upd (upd (g) 0 (.pointer (s_1))) 31 (.pointer (some a11))) (s0 := ()) (upd_step (upd_step rfl rfl) rfl) h ?_
   rintro ⟨⟩ g w12 K13 h
   unfold F87_l1 at h
   refine wp_seq <| wp_text [0, 1] rfl <| ro_wp rfl (.free rfl) (wp_nxt (a := a11) (d := (some 32)) rfl rfl rfl h ?_)
   intro q15 w14 h
   refine rv 33 rfl rfl rfl (q_extractN (q := q15) rfl rfl) <| ro_nil <| wp_seq <| zi h rfl (fun _ h => ?_) fun _ h => ?_
   ·refine wp_skip <| wp_block <| wp_seq <| wp_text [0, 1, 2] rfl ?_
    obtain ⟨e16, he16, h⟩ := h
    refine rv 34 rfl rfl rfl (q_entry (T := tPtr) (p := e16) (a := a11) rfl rfl he16) <| ze 35 (.pointer (e16.2)) rfl rfl rfl <| za 6 (.pointer (e16.2)) rfl rfl <| ro_nil <| wp_text [0, 1, 2, 3, 4, 5] rfl <| zm 36 (.pointer (e16.2)) rfl rfl <| zm 37 (.pointer (s_1)) rfl rfl <| zn 38 ha5 rfl rfl <| zf 39 a5 2 Tryz.underlying169 ok2 rfl rfl rfl ?_
    obtain ⟨x17, hx17, h⟩ := h
    refine zl 40 hx17 ok2 rfl rfl <| zc ent125 rfl rfl h fun r19 w18 h => ro_nil ?_
    exact ⟨(), _, arr (upd_step (upd_step rfl rfl) rfl), h⟩
   ·refine wp_exit <| wp_seq <| wp_text [0] rfl <| za 4 (.int .i64 ((0 : Int))) rfl rfl <| ro_nil <| wp_ret ?_
    exact zr1 h rfl rfl
def F88 (c_1 : (Option Addr)) (w : World) (R : (S117 × Bool) → World → Prop) : Prop :=
 nw 118 T117 Z117 w fun a2 w3 =>
 ex (NC c_1) fun a4 =>
 ex (RdAt tSlc (a4.add 0) w3) fun x5 =>
 if ((x5.len : Int) == (0 : Int)) = true then (
  st T117 a2 (⟨(0 : Int), (0 : Int)⟩ : S117) w3 fun w6 =>
  ex (RdAt T117 a2 w6) fun x7 =>
  R (x7, false) w6
 ) else (
  dr w3 fun w8 =>
  ex (RdAt tSlc (a4.add 0) w8) fun x9 =>
  ex (RdAt tSlc (a4.add 0) w8) fun x10 =>
  ex (IxA x9 2 (IntKind.i64.wrap ((x10.len : Int) - (1 : Int)))) fun a11 =>
  ex (RdAt T117 a11 w8) fun x12 =>
  st T117 a2 x12 w8 fun w13 =>
  ex (RdAt T117 a2 w13) fun x14 =>
  R (x14, true) w13
 )
theorem F88_ok {c_1 : (Option Addr)} {w : World} {R : (S117 × Bool) → World → Prop} (h : F88 c_1 w R) : cl Tryz.prog 88 [.pointer (c_1)] (tTup2 T117 tBool) w R := by
 unfold F88 at h
 refine calls_start 23 Tryz.func88 rfl rfl (Nat.le_of_ble_eq_true rfl) <| wp_seq <| wp_text [0, 1] rfl ?_
 obtain ⟨a2, w3, ha2, hw3, h⟩ := nw_open h
 refine rv 2 rfl rfl rfl (q_alloc (u := Z117) rfl ok118 inf118 ha2 hw3) <| za 3 (.bool (false)) rfl rfl <| ro_nil <| wp_seq <| wp_seq <| wp_text [0, 1, 2, 3, 4, 5] rfl <| zm 4 (.pointer (c_1)) rfl rfl ?_
 obtain ⟨a4, ha4, h⟩ := h
 refine zn 5 ha4 rfl rfl <| zf 6 a4 0 Tryz.underlying199 ok197 rfl rfl rfl ?_
 obtain ⟨x5, hx5, h⟩ := h
 refine zl 7 hx5 ok197 rfl rfl <| rv 8 rfl rfl rfl (q_len (s := x5) rfl Tryz.underlying197 rfl) <| rv 9 rfl rfl rfl (q_eql (a := (x5.len : Int)) (b := (0 : Int)) rfl rfl rfl) <| ro_nil <| zi h rfl (fun _ h => ?_) fun _ h => ?_
 ·refine wp_seq <| wp_text [0, 1, 2] rfl <| rv 10 rfl rfl rfl (q_build118_  rfl ) ?_
  obtain ⟨w6, hw6, hrw6, h⟩ := st_open h
  refine ro_skip (d := none) rfl (.free rfl) rfl (q_store (T := T117) (u := (⟨(0 : Int), (0 : Int)⟩ : S117)) (a := a2) rfl ok118 rfl rfl hrw6 hw6) <| za 3 (.bool (false)) rfl rfl <| ro_nil <| wp_ret ?_
  obtain ⟨x7, hx7, h⟩ := h
  exact ret_ok rfl (.cons (.cell (T := T117) (u := x7) (a := a2) ok118 rfl hx7) (.cons (.tmp (v := .bool (false)) rfl) .nil)) ⟨(x7, false), rfl, h⟩
 ·refine wp_skip <| wp_seq ?_
  obtain ⟨w8, hw8, h⟩ := dr_open h
  refine wp_drawn 14 mixed rfl (by kernel_rfl) (by intro c a d v w h; cases d <;> exact h) hw8 (fun hD => ?_)
  refine ym 0 11 (.pointer (c_1)) hD rfl rfl <| yn 1 12 ha4 hD rfl rfl <| yf 2 13 a4 0 Tryz.underlying199 ok197 hD rfl rfl rfl <| ym 4 15 (.pointer (c_1)) hD rfl rfl <| yn 5 16 ha4 hD rfl rfl <| yf 6 17 a4 0 Tryz.underlying199 ok197 hD rfl rfl rfl ?_
  obtain ⟨x9, hx9, h⟩ := h
  refine yr 3 14 hx9 ok197 hD rfl rfl ?_
  obtain ⟨x10, hx10, h⟩ := h
  refine yr 7 18 hx10 ok197 hD rfl rfl <| rp 8 19 hD rfl rfl rfl (fun _ => q_len (s := x10) rfl Tryz.underlying197 rfl) <| rp 9 20 hD rfl rfl rfl (fun _ => q_sub (a := (x10.len : Int)) (b := (1 : Int)) rfl rfl rfl) ?_
  obtain ⟨a11, ha11, h⟩ := h
  refine rp 10 21 hD rfl rfl rfl (fun _ => q_indexAddr (s := x9) (k := .i64) (i := (IntKind.i64.wrap ((x10.len : Int) - (1 : Int)))) rfl Tryz.underlying197 ok118 rfl rfl ha11) ?_
  obtain ⟨x12, hx12, h⟩ := h
  refine yr 11 22 hx12 ok118 hD rfl rfl <| rd_one (i := 12) (by kernel_rfl) ?_
  obtain ⟨w13, hw13, hrw13, h⟩ := st_open h
  refine po_skip (d := none) rfl (.free rfl) rfl (q_store (T := T117) (u := x12) (a := a2) rfl ok118 rfl rfl hrw13 hw13) ⟨(hk_wait (by kernel_rfl) (hk_wait (by kernel_rfl) (hk_wait (by kernel_rfl) hk_nil))), ?_⟩
  refine ya 13 3 (.bool (true)) hD rfl rfl <| rd_nil (by kernel_rfl) <| wp_ret ?_
  obtain ⟨x14, hx14, h⟩ := h
  exact ret_ok rfl (.cons (.cell (T := T117) (u := x14) (a := a2) ok118 rfl hx14) (.cons (.tmp (v := .bool (true)) rfl) .nil)) ⟨(x14, true), rfl, h⟩
def F89_l1 (s_1 : (Option Addr)) (t_2 : Int) (l_3 : Slc) (m5 : Nat) (t_6 : Int) (w7 : World) (K8 : Int → World → Prop) (R : Int → World → Prop) : Prop :=
 if (decide (t_6 < (l_3.len : Int))) = true then (
  ex (IxA l_3 2 t_6) fun a9 =>
  ex (RdAt T122 a9 w7) fun x10 =>
  nw 123 T122 Z122 w7 fun a11 w12 =>
  st T122 a11 x10 w12 fun w13 =>
  ex (RdAt (tInt .i64) (a11.add 0) w13) fun x14 =>
  ex (MapGet T201 .i64 (some m5) x14 w13) fun m15 =>
  nw 201 T201 Z201 w13 fun a16 w17 =>
  st T201 a16 (((m15.getD Z201, m15.isSome)).1) w17 fun w18 =>
  ex (RdAt (tInt .i64) (a11.add 0) w18) fun x19 =>
  cl Tryz.prog 52 [.pointer (s_1), .int .i64 (x19)] (tTup2 T117 tBool) w18 fun r21 w20 =>
  nw 118 T117 Z117 w20 fun a22 w23 =>
  st T117 a22 r21.1 w23 fun w24 =>
  ex (RdAt (tInt .i64) (a11.add 0) w24) fun x25 =>
  cl Tryz.prog 126 [.int .i64 (x25)] tBool w24 fun r27 w26 =>
  if (!r27) = true then (
   R (123 : Int) w26
  ) else (
   if ((m15.getD Z201, m15.isSome)).2 = true then (
    R (124 : Int) w26
   ) else (
    ex (RdAt (tInt .i64) (a22.add 0) w26) fun x28 =>
    if (decide (x28 ≥ t_2)) = true then (
     R (121 : Int) w26
    ) else (
     ex (RdAt (tInt .i64) (a11.add 0) w26) fun x29 =>
     cl Tryz.prog 127 [.pointer (s_1), .int .i64 (x29)] tBool w26 fun r31 w30 =>
     if r31 = true then (
      R (125 : Int) w30
     ) else (
      ex (RdAt (tInt .i64) (a11.add 0) w30) fun x32 =>
      mput T201 .i64 (some m5) x32 (⟨⟩ : S201) w30 fun w33 =>
      K8 ((IntKind.i64.wrap (t_6 + (1 : Int)))) w33
     )
    )
   )
  )
 ) else (
  R (0 : Int) w7
 )
def F89 (s_1 : (Option Addr)) (t_2 : Int) (l_3 : Slc) (w : World) (R : Int → World → Prop) : Prop :=
 if (decide ((l_3.len : Int) > (100 : Int))) = true then (
  R (122 : Int) w
 ) else (
  nwMap w fun m5 w4 =>
  lp (fun (s : Int) w K => F89_l1 s_1 t_2 l_3 m5 s w K R) ((0 : Int)) w4
 )
theorem F89_ok {s_1 : (Option Addr)} {t_2 : Int} {l_3 : Slc} {w : World} {R : Int → World → Prop} (h : F89 s_1 t_2 l_3 w R) : cl Tryz.prog 89 [.pointer (s_1), .int .i64 (t_2), tSlc.enc (l_3)] (tInt .i64) w R := by
 unfold F89 at h
 refine calls_start 60 Tryz.func89 rfl rfl (Nat.le_of_ble_eq_true rfl) <| wp_seq <| wp_text [0] rfl <| za 6 (.int .i64 ((0 : Int))) rfl rfl <| ro_nil <| wp_seq <| wp_seq <| wp_text [0, 1, 2] rfl <| zm 14 (tSlc.enc (l_3)) rfl rfl <| rv 15 rfl rfl rfl (q_len (s := l_3) rfl Tryz.underlying108 rfl) <| rv 16 rfl rfl rfl (q_gtr (a := (l_3.len : Int)) (b := (100 : Int)) rfl rfl rfl) <| ro_nil ?_
 refine zi h rfl (fun _ h => ?_) fun _ h => ?_
 ·refine wp_seq <| wp_text [0] rfl <| za 6 (.int .i64 ((122 : Int))) rfl rfl <| ro_nil <| wp_ret ?_
  exact zr1 h rfl rfl
 ·refine wp_skip <| wp_seq <| wp_text [0, 1] rfl ?_
  obtain ⟨m5, w4, hm5, hw4, h⟩ := nwMap_open h
  refine rv 17 rfl rfl rfl (q_makeMap rfl hm5 hw4) <| za 7 (.map ((some m5))) rfl rfl <| ro_nil <| wp_seq <| wp_seq <| wp_text [0, 1, 2] rfl <| zm 18 (tSlc.enc (l_3)) rfl rfl <| rv 19 rfl rfl rfl (q_len (s := l_3) rfl Tryz.underlying108 rfl) <| zm 20 (.int .i64 ((0 : Int))) rfl rfl <| ro_nil <| wp_block <| loop_at (σ := Int) (fr := fun g (s : Int) => upd (upd (upd (upd (upd (upd (g) 0 (.pointer (s_1))) 1 (.int .i64 (t_2))) 7 (.map ((some m5)))) 18 (tSlc.enc (l_3))) 19 (.int .i64 ((l_3.len : Int)))) 20 (.int .i64 (s))) (s0 := ((0 : Int))) (upd_step (upd_step (upd_step (upd_step (upd_step (upd_step rfl rfl) rfl) rfl) rfl) rfl) rfl) h ?_
  rintro t_6 g w7 K8 h
  unfold F89_l1 at h
  refine wp_seq <| wp_text [0] rfl <| rv 21 rfl rfl rfl (q_lss (a := t_6) (b := (l_3.len : Int)) rfl rfl rfl) <| ro_nil <| wp_seq <| zi h rfl (fun _ h => ?_) fun _ h => ?_
  ·refine wp_skip <| wp_seq <| wp_block <| wp_seq <| wp_text [0, 1, 2, 3] rfl ?_
   obtain ⟨a9, ha9, h⟩ := h
   refine rv 22 rfl rfl rfl (q_indexAddr (s := l_3) (k := .i64) (i := t_6) rfl Tryz.underlying108 ok123 rfl rfl ha9) ?_
   obtain ⟨x10, hx10, h⟩ := h
   refine zl 23 hx10 ok123 rfl rfl ?_
   obtain ⟨a11, w12, ha11, hw12, h⟩ := nw_open h
   refine rv 9 rfl rfl rfl (q_alloc (u := Z122) rfl ok123 inf123 ha11 hw12) ?_
   obtain ⟨w13, hw13, hrw13, h⟩ := st_open h
   refine ro_skip (d := none) rfl (.free rfl) rfl (q_store (T := T122) (u := x10) (a := a11) rfl ok123 rfl rfl hrw13 hw13) <| ro_nil <| wp_seq <| wp_text [0, 1, 2, 3, 4, 5, 6, 7, 8, 9] rfl <| zm 25 (.map ((some m5))) rfl rfl <| zf 26 a11 0 Tryz.underlying123 ok3 rfl rfl rfl ?_
   obtain ⟨x14, hx14, h⟩ := h
   refine zl 27 hx14 ok3 rfl rfl ?_
   obtain ⟨m15, hm15, h⟩ := h
   refine rv 28 rfl rfl rfl (q_lookup2 (T := T201) (r := (some m5)) (key := x14) (u := m15) (z := Z201) rfl Tryz.underlying200 Tryz.underlying3 (inf201) rfl rfl hm15) <| zm 24 ((tTup2 T201 tBool).enc (((m15.getD Z201, m15.isSome)))) rfl rfl <| ze 29 (T201.enc (((m15.getD Z201, m15.isSome)).1)) rfl rfl rfl <| ze 30 (.bool (((m15.getD Z201, m15.isSome)).2)) rfl rfl rfl ?_
   obtain ⟨a16, w17, ha16, hw17, h⟩ := nw_open h
   refine rv 10 rfl rfl rfl (q_alloc (u := Z201) rfl ok201 inf201 ha16 hw17) ?_
   obtain ⟨w18, hw18, hrw18, h⟩ := st_open h
   refine ro_skip (d := none) rfl (.free rfl) rfl (q_store (T := T201) (u := ((m15.getD Z201, m15.isSome)).1) (a := a16) rfl ok201 rfl rfl hrw18 hw18) <| za 11 (.bool (((m15.getD Z201, m15.isSome)).2)) rfl rfl <| ro_nil <| wp_seq <| wp_text [0, 1, 2, 3, 4, 5, 6, 7, 8, 9] rfl <| zm 32 (.pointer (s_1)) rfl rfl <| zf 33 a11 0 Tryz.underlying123 ok3 rfl rfl rfl ?_
   obtain ⟨x19, hx19, h⟩ := h
   refine zl 34 hx19 ok3 rfl rfl <| zc ent52 rfl rfl h fun r21 w20 h => zm 31 ((tTup2 T117 tBool).enc (r21)) rfl rfl <| ze 36 (T117.enc (r21.1)) rfl rfl rfl <| ze 37 (.bool (r21.2)) rfl rfl rfl ?_
   obtain ⟨a22, w23, ha22, hw23, h⟩ := nw_open h
   refine rv 12 rfl rfl rfl (q_alloc (u := Z117) rfl ok118 inf118 ha22 hw23) ?_
   obtain ⟨w24, hw24, hrw24, h⟩ := st_open h
   refine ro_skip (d := none) rfl (.free rfl) rfl (q_store (T := T117) (u := r21.1) (a := a22) rfl ok118 rfl rfl hrw24 hw24) <| za 13 (.bool (r21.2)) rfl rfl <| ro_nil <| wp_seq <| wp_block <| wp_seq <| wp_text [0, 1, 2, 3, 4] rfl <| zf 39 a11 0 Tryz.underlying123 ok3 rfl rfl rfl ?_
   obtain ⟨x25, hx25, h⟩ := h
   refine zl 40 hx25 ok3 rfl rfl <| zc ent126 rfl rfl h fun r27 w26 h => rv 42 rfl rfl rfl (q_not (b := r27) rfl rfl) <| za 38 (.bool ((!r27))) rfl rfl <| ro_nil <| zi h rfl (fun _ h => ?_) fun _ h => ?_
   ·refine wp_seq <| wp_text [0] rfl <| za 6 (.int .i64 ((123 : Int))) rfl rfl <| ro_nil <| wp_ret ?_
    exact zr1 h rfl rfl
   ·refine wp_seq <| wp_text [0, 1] rfl <| zm 44 (.bool (((m15.getD Z201, m15.isSome)).2)) rfl rfl <| za 43 (.bool (((m15.getD Z201, m15.isSome)).2)) rfl rfl <| ro_nil <| zi h rfl (fun _ h => ?_) fun _ h => ?_
    ·refine wp_seq <| wp_text [0] rfl <| za 6 (.int .i64 ((124 : Int))) rfl rfl <| ro_nil <| wp_ret ?_
     exact zr1 h rfl rfl
    ·refine wp_seq <| wp_text [0, 1, 2, 3, 4] rfl <| zf 46 a22 0 Tryz.underlying118 ok2 rfl rfl rfl ?_
     obtain ⟨x28, hx28, h⟩ := h
     refine zl 47 hx28 ok2 rfl rfl <| zm 48 (.int .i64 (t_2)) rfl rfl <| rv 49 rfl rfl rfl (q_geq (a := x28) (b := t_2) rfl rfl rfl) <| za 45 (.bool ((decide (x28 ≥ t_2)))) rfl rfl <| ro_nil <| zi h rfl (fun _ h => ?_) fun _ h => ?_
     ·refine wp_seq <| wp_text [0] rfl <| za 6 (.int .i64 ((121 : Int))) rfl rfl <| ro_nil <| wp_ret ?_
      exact zr1 h rfl rfl
     ·refine wp_seq <| wp_text [0, 1, 2, 3, 4] rfl <| zm 51 (.pointer (s_1)) rfl rfl <| zf 52 a11 0 Tryz.underlying123 ok3 rfl rfl rfl ?_
      obtain ⟨x29, hx29, h⟩ := h
      refine zl 53 hx29 ok3 rfl rfl <| zc ent127 rfl rfl h fun r31 w30 h => za 50 (.bool (r31)) rfl rfl <| ro_nil <| zi h rfl (fun _ h => ?_) fun _ h => ?_
      ·refine wp_seq <| wp_text [0] rfl <| za 6 (.int .i64 ((125 : Int))) rfl rfl <| ro_nil <| wp_ret ?_
       exact zr1 h rfl rfl
      ·refine wp_skip <| wp_text [0, 1, 2, 3, 4] rfl <| zm 55 (.map ((some m5))) rfl rfl <| zf 56 a11 0 Tryz.underlying123 ok3 rfl rfl rfl ?_
       obtain ⟨x32, hx32, h⟩ := h
       refine zl 57 hx32 ok3 rfl rfl <| rv 58 rfl rfl rfl (q_build201_  rfl ) <| ro_wp rfl (.free rfl) (wp_mput (T := T201) (r := (some m5)) (key := x32) (v := (⟨⟩ : S201)) (d := none) rfl (.inl rfl) Tryz.underlying200 Tryz.underlying3 rfl rfl rfl h ?_)
       intro w33 h
       refine ro_nil <| wp_text [0, 1] rfl <| rv 59 rfl rfl rfl (q_add (a := t_6) (b := (1 : Int)) rfl rfl rfl) <| zm 20 (.int .i64 ((IntKind.i64.wrap (t_6 + (1 : Int))))) rfl rfl <| ro_nil ?_
       exact ⟨((IntKind.i64.wrap (t_6 + (1 : Int)))), _, arr (upd_step (upd_step (upd_step (upd_step (upd_step (upd_step rfl rfl) rfl) rfl) rfl) rfl) rfl), h⟩
  ·refine wp_exit <| wp_seq <| wp_text [0] rfl <| za 6 (.int .i64 ((0 : Int))) rfl rfl <| ro_nil <| wp_ret ?_
   exact zr1 h rfl rfl
def F90 (w : World) (R : (Option Addr) → World → Prop) : Prop :=
 nw 199 T198 (⟨(⟨none, 0, 0⟩ : Slc), (0 : Int)⟩ : S198) w fun a1 w2 =>
 R (some a1) w2
theorem F90_ok {w : World} {R : (Option Addr) → World → Prop} (h : F90 w R) : cl Tryz.prog 90 [] tPtr w R := by
 unfold F90 at h
 refine calls_start 3 Tryz.func90 rfl rfl (Nat.le_of_ble_eq_true rfl) <| wp_seq <| wp_text [0] rfl <| za 0 (.pointer ((none : Option Addr))) rfl rfl <| ro_nil <| wp_seq <| wp_text [0, 1, 2] rfl <| rv 1 rfl rfl rfl (q_build199_  rfl ) ?_
 obtain ⟨a1, w2, ha1, hw2, h⟩ := nw_open h
 refine rv 2 rfl rfl rfl (q_box (u := (⟨(⟨none, 0, 0⟩ : Slc), (0 : Int)⟩ : S198)) rfl ok199 rfl ha1 hw2) <| za 0 (.pointer (some a1)) rfl rfl <| ro_nil <| wp_ret ?_
 exact zr1 h rfl rfl
def F91 (c_1 : (Option Addr)) (t_2 : Int) (v_3 : Int) (w : World) (R : Int → World → Prop) : Prop :=
 if ((decide (t_2 < (1 : Int))) || (decide (t_2 > (1125899906842624 : Int)))) = true then (
  R (110 : Int) w
 ) else (
  cl Tryz.prog 88 [.pointer (c_1)] (tTup2 T117 tBool) w fun r5 w4 =>
  nw 118 T117 Z117 w4 fun a6 w7 =>
  st T117 a6 r5.1 w7 fun w8 =>
  ex (fun x => r5.2 = true → (RdAt (tInt .i64) (a6.add 0) w8) x) fun x9 =>
  ex (fun x => (!(r5.2 && (decide (t_2 ≤ x9)))) = true → (NC c_1) x) fun a10 =>
  ex (fun x => (!(r5.2 && (decide (t_2 ≤ x9)))) = true → (RdAt (tInt .i64) (a10.add 1) w8) x) fun x11 =>
  if ((r5.2 && (decide (t_2 ≤ x9))) || (decide (t_2 ≤ x11))) = true then (
   R (111 : Int) w8
  ) else (
   ex (NC c_1) fun a12 =>
   ex (RdAt tSlc (a12.add 0) w8) fun x13 =>
   if (decide ((x13.len : Int) ≥ (10000 : Int))) = true then (
    R (112 : Int) w8
   ) else (
    ex (RdAt tSlc (a12.add 0) w8) fun x14 =>
    apl 118 T117 2 16 x14 [(⟨t_2, v_3⟩ : S117)] w8 fun r18 w17 =>
    st tSlc (a12.add 0) r18 w17 fun w19 =>
    R (0 : Int) w19
   )
  )
 )
theorem F91_ok {c_1 : (Option Addr)} {t_2 : Int} {v_3 : Int} {w : World} {R : Int → World → Prop} (h : F91 c_1 t_2 v_3 w R) : cl Tryz.prog 91 [.pointer (c_1), .int .i64 (t_2), .int .i64 (v_3)] (tInt .i64) w R := by
 unfold F91 at h
 refine calls_start 53 Tryz.func91 rfl rfl (Nat.le_of_ble_eq_true rfl) <| wp_seq <| wp_text [0] rfl <| za 6 (.int .i64 ((0 : Int))) rfl rfl <| ro_nil <| wp_seq <| wp_seq <| wp_text [0, 1, 2, 3, 4, 5] rfl <| zm 9 (.int .i64 (t_2)) rfl rfl <| rv 10 rfl rfl rfl (q_lss (a := t_2) (b := (1 : Int)) rfl rfl rfl) <| zm 11 (.bool ((decide (t_2 < (1 : Int))))) rfl rfl <| ro_gval (g := (!(decide (t_2 < (1 : Int))))) (d := (some 12)) rfl (.no 2 11 true (decide (t_2 < (1 : Int))) rfl rfl rfl rfl) rfl (fun hg => q_move (v := .int .i64 (t_2)) rfl rfl) ?_
 refine ro_gval (g := (!(decide (t_2 < (1 : Int))))) (d := (some 13)) rfl (.no 2 11 true (decide (t_2 < (1 : Int))) rfl rfl rfl rfl) rfl (fun hg => q_gtr (k := .i64) (a := t_2) (b := (1125899906842624 : Int)) rfl (gvb_yes hg) rfl) <| rv 14 rfl rfl rfl (q_pickGF (a := (decide (t_2 < (1 : Int)))) (c := (decide (t_2 > (1125899906842624 : Int)))) rfl rfl rfl rfl) <| ro_nil <| zi h rfl (fun _ h => ?_) fun _ h => ?_
 ·refine wp_seq <| wp_text [0] rfl <| za 6 (.int .i64 ((110 : Int))) rfl rfl <| ro_nil <| wp_ret ?_
  exact zr1 h rfl rfl
 ·refine wp_skip <| wp_seq <| wp_seq <| wp_text [0, 1, 2, 3, 4, 5, 6, 7] rfl <| zm 16 (.pointer (c_1)) rfl rfl <| zc ent88 rfl rfl h fun r5 w4 h => zm 15 ((tTup2 T117 tBool).enc (r5)) rfl rfl <| ze 18 (T117.enc (r5.1)) rfl rfl rfl <| ze 19 (.bool (r5.2)) rfl rfl rfl ?_
  obtain ⟨a6, w7, ha6, hw7, h⟩ := nw_open h
  refine rv 7 rfl rfl rfl (q_alloc (u := Z117) rfl ok118 inf118 ha6 hw7) ?_
  obtain ⟨w8, hw8, hrw8, h⟩ := st_open h
  refine ro_skip (d := none) rfl (.free rfl) rfl (q_store (T := T117) (u := r5.1) (a := a6) rfl ok118 rfl rfl hrw8 hw8) <| za 8 (.bool (r5.2)) rfl rfl <| ro_nil <| wp_seq <| wp_text [0, 1, 2, 3, 4, 5, 6, 7, 8, 9, 10, 11, 12, 13, 14] rfl <| zm 20 (.bool (r5.2)) rfl rfl <| zm 21 (.bool (r5.2)) rfl rfl <| ro_gval (g := r5.2) (d := (some 22)) rfl (.yes 1 21 true r5.2 rfl rfl rfl rfl) rfl (fun hg => q_move (v := .int .i64 (t_2)) rfl rfl) <| ro_gval (g := r5.2) (d := (some 23)) rfl (.yes 1 21 true r5.2 rfl rfl rfl rfl) rfl (fun hg => q_fieldAddr (a := a6) (off := 0) rfl Tryz.underlying118 rfl rfl ok2 (by decide) rfl) ?_
  obtain ⟨x9, hx9, h⟩ := h
  refine ro_gval (g := r5.2) (d := (some 24)) rfl (.yes 1 21 true r5.2 rfl rfl rfl rfl) rfl (fun hg => q_load (T := (tInt .i64)) (u := x9) (a := (a6.add 0)) rfl ok2 (gvb_yes hg) (hx9 hg)) <| ro_gval (g := r5.2) (d := (some 25)) rfl (.yes 1 21 true r5.2 rfl rfl rfl rfl) rfl (fun hg => q_leq (k := .i64) (a := t_2) (b := x9) rfl (gvb_yes hg) (gvb_yes hg)) <| rv 26 rfl rfl rfl (q_pickGT (a := r5.2) (b := (decide (t_2 ≤ x9))) rfl rfl rfl rfl) <| zm 27 (.bool ((r5.2 && (decide (t_2 ≤ x9))))) rfl rfl <| ro_gval (g := (!(r5.2 && (decide (t_2 ≤ x9))))) (d := (some 28)) rfl (.no 7 27 true (r5.2 && (decide (t_2 ≤ x9))) rfl rfl rfl rfl) rfl (fun hg => q_move (v := .int .i64 (t_2)) rfl rfl) <| ro_gval (g := (!(r5.2 && (decide (t_2 ≤ x9))))) (d := (some 29)) rfl (.no 7 27 true (r5.2 && (decide (t_2 ≤ x9))) rfl rfl rfl rfl) rfl (fun hg => q_move (v := .pointer (c_1)) rfl rfl) ?_
  obtain ⟨a10, ha10, h⟩ := h
  refine ro_gval (g := (!(r5.2 && (decide (t_2 ≤ x9))))) (d := (some 30)) rfl (.no 7 27 true (r5.2 && (decide (t_2 ≤ x9))) rfl rfl rfl rfl) rfl (fun hg => q_nilCheck (a := a10) rfl ((gvb_yes hg).trans (congrArg Value.pointer (ha10 hg)))) <| ro_gval (g := (!(r5.2 && (decide (t_2 ≤ x9))))) (d := (some 31)) rfl (.no 7 27 true (r5.2 && (decide (t_2 ≤ x9))) rfl rfl rfl rfl) rfl (fun hg => q_fieldAddr (a := a10) (off := 1) rfl Tryz.underlying199 rfl rfl ok2 (by decide) (gvb_yes hg)) ?_
  obtain ⟨x11, hx11, h⟩ := h
  refine ro_gval (g := (!(r5.2 && (decide (t_2 ≤ x9))))) (d := (some 32)) rfl (.no 7 27 true (r5.2 && (decide (t_2 ≤ x9))) rfl rfl rfl rfl) rfl (fun hg => q_load (T := (tInt .i64)) (u := x11) (a := (a10.add 1)) rfl ok2 (gvb_yes hg) (hx11 hg)) <| ro_gval (g := (!(r5.2 && (decide (t_2 ≤ x9))))) (d := (some 33)) rfl (.no 7 27 true (r5.2 && (decide (t_2 ≤ x9))) rfl rfl rfl rfl) rfl (fun hg => q_leq (k := .i64) (a := t_2) (b := x11) rfl (gvb_yes hg) (gvb_yes hg)) <| rv 34 rfl rfl rfl (q_pickGF (a := (r5.2 && (decide (t_2 ≤ x9)))) (c := (decide (t_2 ≤ x11))) rfl rfl rfl rfl) <| ro_nil <| zi h rfl (fun _ h => ?_) fun _ h => ?_
  ·refine wp_seq <| wp_text [0] rfl <| za 6 (.int .i64 ((111 : Int))) rfl rfl <| ro_nil <| wp_ret ?_
   exact zr1 h rfl rfl
  ·refine wp_skip <| wp_seq <| wp_seq <| wp_text [0, 1, 2, 3, 4, 5] rfl <| zm 35 (.pointer (c_1)) rfl rfl ?_
   obtain ⟨a12, ha12, h⟩ := h
   refine zn 36 ha12 rfl rfl <| zf 37 a12 0 Tryz.underlying199 ok197 rfl rfl rfl ?_
   obtain ⟨x13, hx13, h⟩ := h
   refine zl 38 hx13 ok197 rfl rfl <| rv 39 rfl rfl rfl (q_len (s := x13) rfl Tryz.underlying197 rfl) <| rv 40 rfl rfl rfl (q_geq (a := (x13.len : Int)) (b := (10000 : Int)) rfl rfl rfl) <| ro_nil <| zi h rfl (fun _ h => ?_) fun _ h => ?_
   ·refine wp_seq <| wp_text [0] rfl <| za 6 (.int .i64 ((112 : Int))) rfl rfl <| ro_nil <| wp_ret ?_
    exact zr1 h rfl rfl
   ·refine wp_skip <| wp_seq <| wp_text [0, 1, 2, 3, 4, 5, 6, 7, 8, 9, 10, 11, 12] rfl <| zm 41 (.pointer (c_1)) rfl rfl <| zm 42 (.pointer (c_1)) rfl rfl <| zn 43 ha12 rfl rfl <| zf 44 a12 0 Tryz.underlying199 ok197 rfl rfl rfl ?_
    obtain ⟨x14, hx14, h⟩ := h
    refine zl 45 hx14 ok197 rfl rfl <| zm 46 (.int .i64 (t_2)) rfl rfl <| zm 47 (.int .i64 (v_3)) rfl rfl <| rv 48 rfl rfl rfl (q_build118_0_1 (v0 := t_2) (v1 := v_3) rfl rfl rfl) ?_
    obtain ⟨a15, w16, ha15, hw16, h⟩ := apl_open h
    refine rv 49 rfl rfl rfl (q_rowOf (T := T117) (xs := [(⟨t_2, v_3⟩ : S117)]) rfl Tryz.underlying197 ok118 inf118 rfl (by decide) (by decide) rfl ha15 hw16) <| ro_wp rfl (.free rfl) (wp_append (d := (some 50)) (T := T117) rfl rfl Tryz.underlying197 ⟨_, Tryz.underlying197⟩ ok118 inf118 rfl rfl (Nat.lt_of_lt_of_le Nat.zero_lt_one (Nat.le_of_ble_eq_true rfl)) rfl rfl h ?_)
    intro r18 w17 h
    refine zn 51 ha12 rfl rfl <| zf 52 a12 0 Tryz.underlying199 ok197 rfl rfl rfl ?_
    obtain ⟨w19, hw19, hrw19, h⟩ := st_open h
    refine ro_skip (d := none) rfl (.free rfl) rfl (q_store (T := tSlc) (u := r18) (a := (a12.add 0)) rfl ok197 rfl rfl hrw19 hw19) <| ro_nil <| wp_seq <| wp_text [0] rfl <| za 6 (.int .i64 ((0 : Int))) rfl rfl <| ro_nil <| wp_ret ?_
    exact zr1 h rfl rfl
end Go.Proofs.YtehclfjjjiiieaaGreat.Cf
namespace Go.Proofs.YtehclfjjjiiieaaGreat.Cf
open Go
set_option maxRecDepth 100000
set_option maxHeartbeats 1000000
set_option linter.unusedVariables false
set_option linter.unusedSimpArgs false
def F92 (v_1 : S63) (w : World) (R : Bool → World → Prop) : Prop :=
 nw 64 T63 v_1 w fun a2 w3 =>
 dr w3 fun w4 =>
 ex (RdAt (tInt .u64) (a2.add 1) w4) fun x5 =>
 ex (RdAt (tInt .i64) (a2.add 2) w4) fun x6 =>
 ex (RdAt tFlt (a2.add 3) w4) fun x7 =>
 ex (RdAt tStr (a2.add 4) w4) fun x8 =>
 ex (RdAt (tInt .i64) (a2.add 0) w4) fun x9 =>
 if (x9 == (1 : Int)) = true then (
  R (((x6 == (0 : Int)) && ((x7 : Int) == (0 : Int))) && (x8 == ([] : List UInt8))) w4
 ) else (
  if (x9 == (2 : Int)) = true then (
   R (((x5 == (0 : Int)) && ((x7 : Int) == (0 : Int))) && (x8 == ([] : List UInt8))) w4
  ) else (
   if (x9 == (3 : Int)) = true then (
    R (((x5 == (0 : Int)) && (x6 == (0 : Int))) && (x8 == ([] : List UInt8))) w4
   ) else (
    if (x9 == (4 : Int)) = true then (
     R (((x5 == (0 : Int)) && (x6 == (0 : Int))) && ((x7 : Int) == (0 : Int))) w4
    ) else (
     R false w4
    )
   )
  )
 )
theorem F92_ok {v_1 : S63} {w : World} {R : Bool → World → Prop} (h : F92 v_1 w R) : cl Tryz.prog 92 [T63.enc (v_1)] tBool w R := by
 unfold F92 at h
 refine calls_start 58 Tryz.func92 rfl rfl (Nat.le_of_ble_eq_true rfl) <| wp_seq <| wp_text [0, 1] rfl ?_
 obtain ⟨a2, w3, ha2, hw3, h⟩ := nw_open h
 refine rv 1 rfl rfl rfl (q_box (u := v_1) rfl ok64 rfl ha2 hw3) <| za 2 (.bool (false)) rfl rfl <| ro_nil <| wp_seq ?_
 obtain ⟨w4, hw4, h⟩ := dr_open h
 refine wp_drawn 17 mixed rfl (by kernel_rfl) (by intro c a d v w h; cases d <;> exact h) hw4 (fun hD => ?_)
 refine yf 0 7 a2 1 Tryz.underlying64 ok61 hD rfl rfl rfl <| yf 3 10 a2 2 Tryz.underlying64 ok2 hD rfl rfl rfl <| yf 6 13 a2 3 Tryz.underlying64 ok40 hD rfl rfl rfl <| yf 10 17 a2 4 Tryz.underlying64 ok9 hD rfl rfl rfl ?_
 obtain ⟨x5, hx5, h⟩ := h
 refine yr 1 8 hx5 ok61 hD rfl rfl <| rp 2 9 hD rfl rfl rfl (fun _ => q_eql (a := x5) (b := (0 : Int)) rfl rfl rfl) ?_
 obtain ⟨x6, hx6, h⟩ := h
 refine yr 4 11 hx6 ok2 hD rfl rfl <| rp 5 12 hD rfl rfl rfl (fun _ => q_eql (a := x6) (b := (0 : Int)) rfl rfl rfl) ?_
 obtain ⟨x7, hx7, h⟩ := h
 refine yr 7 14 hx7 ok40 hD rfl rfl <| rp 8 15 hD rfl rfl rfl (fun _ => q_f64bits (b := x7) rfl ext102 rfl) <| rp 9 16 hD rfl rfl rfl (fun _ => q_eql (a := (x7 : Int)) (b := (0 : Int)) rfl rfl rfl) <| ya 13 3 (.bool ((x5 == (0 : Int)))) hD rfl rfl <| ya 14 4 (.bool ((x6 == (0 : Int)))) hD rfl rfl <| ya 15 5 (.bool (((x7 : Int) == (0 : Int)))) hD rfl rfl ?_
 obtain ⟨x8, hx8, h⟩ := h
 refine yr 11 18 hx8 ok9 hD rfl rfl <| rp 12 19 hD rfl rfl rfl (fun _ => q_eqS (a := x8) (b := ([] : List UInt8)) rfl rfl rfl) <| ya 16 6 (.bool ((x8 == ([] : List UInt8)))) hD rfl rfl <| rd_nil (by kernel_rfl) <| wp_seq <| wp_seq <| wp_text [0, 1] rfl <| zf 20 a2 0 Tryz.underlying64 ok62 rfl rfl rfl ?_
 obtain ⟨x9, hx9, h⟩ := h
 refine zl 21 hx9 ok62 rfl rfl <| ro_nil <| wp_block <| wp_seq <| wp_text [0, 1] rfl <| rv 23 rfl rfl rfl (q_eql (a := x9) (b := (1 : Int)) rfl rfl rfl) <| za 22 (.bool ((x9 == (1 : Int)))) rfl rfl <| ro_nil <| zi h rfl (fun _ h => ?_) fun _ h => ?_
 ·refine wp_seq <| wp_text [0, 1, 2, 3, 4, 5, 6, 7] rfl <| zm 24 (.bool ((x6 == (0 : Int)))) rfl rfl <| zm 25 (.bool ((x6 == (0 : Int)))) rfl rfl <| ro_gval (g := (x6 == (0 : Int))) (d := (some 26)) rfl (.yes 1 25 true (x6 == (0 : Int)) rfl rfl rfl rfl) rfl (fun hg => q_move (v := .bool (((x7 : Int) == (0 : Int)))) rfl rfl) <| rv 27 rfl rfl rfl (q_pickGT (a := (x6 == (0 : Int))) (b := ((x7 : Int) == (0 : Int))) rfl rfl rfl rfl) <| zm 28 (.bool (((x6 == (0 : Int)) && ((x7 : Int) == (0 : Int))))) rfl rfl <| ro_gval (g := ((x6 == (0 : Int)) && ((x7 : Int) == (0 : Int)))) (d := (some 29)) rfl (.yes 4 28 true ((x6 == (0 : Int)) && ((x7 : Int) == (0 : Int))) rfl rfl rfl rfl) rfl (fun hg => q_move (v := .bool ((x8 == ([] : List UInt8)))) rfl rfl) <| rv 30 rfl rfl rfl (q_pickGT (a := ((x6 == (0 : Int)) && ((x7 : Int) == (0 : Int)))) (b := (x8 == ([] : List UInt8))) rfl rfl rfl rfl) <| za 2 (.bool ((((x6 == (0 : Int)) && ((x7 : Int) == (0 : Int))) && (x8 == ([] : List UInt8))))) rfl rfl <| ro_nil <| wp_ret ?_
  exact zr1 h rfl rfl
 ·refine wp_seq <| wp_text [0, 1] rfl <| rv 32 rfl rfl rfl (q_eql (a := x9) (b := (2 : Int)) rfl rfl rfl) <| za 31 (.bool ((x9 == (2 : Int)))) rfl rfl <| ro_nil <| zi h rfl (fun _ h => ?_) fun _ h => ?_
  ·refine wp_seq <| wp_text [0, 1, 2, 3, 4, 5, 6, 7] rfl <| zm 33 (.bool ((x5 == (0 : Int)))) rfl rfl <| zm 34 (.bool ((x5 == (0 : Int)))) rfl rfl <| ro_gval (g := (x5 == (0 : Int))) (d := (some 35)) rfl (.yes 1 34 true (x5 == (0 : Int)) rfl rfl rfl rfl) rfl (fun hg => q_move (v := .bool (((x7 : Int) == (0 : Int)))) rfl rfl) <| rv 36 rfl rfl rfl (q_pickGT (a := (x5 == (0 : Int))) (b := ((x7 : Int) == (0 : Int))) rfl rfl rfl rfl) <| zm 37 (.bool (((x5 == (0 : Int)) && ((x7 : Int) == (0 : Int))))) rfl rfl <| ro_gval (g := ((x5 == (0 : Int)) && ((x7 : Int) == (0 : Int)))) (d := (some 38)) rfl (.yes 4 37 true ((x5 == (0 : Int)) && ((x7 : Int) == (0 : Int))) rfl rfl rfl rfl) rfl (fun hg => q_move (v := .bool ((x8 == ([] : List UInt8)))) rfl rfl) <| rv 39 rfl rfl rfl (q_pickGT (a := ((x5 == (0 : Int)) && ((x7 : Int) == (0 : Int)))) (b := (x8 == ([] : List UInt8))) rfl rfl rfl rfl) <| za 2 (.bool ((((x5 == (0 : Int)) && ((x7 : Int) == (0 : Int))) && (x8 == ([] : List UInt8))))) rfl rfl <| ro_nil <| wp_ret ?_
   exact zr1 h rfl rfl
  ·refine wp_seq <| wp_text [0, 1] rfl <| rv 41 rfl rfl rfl (q_eql (a := x9) (b := (3 : Int)) rfl rfl rfl) <| za 40 (.bool ((x9 == (3 : Int)))) rfl rfl <| ro_nil <| zi h rfl (fun _ h => ?_) fun _ h => ?_
   ·refine wp_seq <| wp_text [0, 1, 2, 3, 4, 5, 6, 7] rfl <| zm 42 (.bool ((x5 == (0 : Int)))) rfl rfl <| zm 43 (.bool ((x5 == (0 : Int)))) rfl rfl <| ro_gval (g := (x5 == (0 : Int))) (d := (some 44)) rfl (.yes 1 43 true (x5 == (0 : Int)) rfl rfl rfl rfl) rfl (fun hg => q_move (v := .bool ((x6 == (0 : Int)))) rfl rfl) <| rv 45 rfl rfl rfl (q_pickGT (a := (x5 == (0 : Int))) (b := (x6 == (0 : Int))) rfl rfl rfl rfl) <| zm 46 (.bool (((x5 == (0 : Int)) && (x6 == (0 : Int))))) rfl rfl <| ro_gval (g := ((x5 == (0 : Int)) && (x6 == (0 : Int)))) (d := (some 47)) rfl (.yes 4 46 true ((x5 == (0 : Int)) && (x6 == (0 : Int))) rfl rfl rfl rfl) rfl (fun hg => q_move (v := .bool ((x8 == ([] : List UInt8)))) rfl rfl) <| rv 48 rfl rfl rfl (q_pickGT (a := ((x5 == (0 : Int)) && (x6 == (0 : Int)))) (b := (x8 == ([] : List UInt8))) rfl rfl rfl rfl) <| za 2 (.bool ((((x5 == (0 : Int)) && (x6 == (0 : Int))) && (x8 == ([] : List UInt8))))) rfl rfl <| ro_nil <| wp_ret ?_
    exact zr1 h rfl rfl
   ·refine wp_seq <| wp_text [0, 1] rfl <| rv 50 rfl rfl rfl (q_eql (a := x9) (b := (4 : Int)) rfl rfl rfl) <| za 49 (.bool ((x9 == (4 : Int)))) rfl rfl <| ro_nil <| zi h rfl (fun _ h => ?_) fun _ h => ?_
    ·refine wp_seq <| wp_text [0, 1, 2, 3, 4, 5, 6, 7] rfl <| zm 51 (.bool ((x5 == (0 : Int)))) rfl rfl <| zm 52 (.bool ((x5 == (0 : Int)))) rfl rfl <| ro_gval (g := (x5 == (0 : Int))) (d := (some 53)) rfl (.yes 1 52 true (x5 == (0 : Int)) rfl rfl rfl rfl) rfl (fun hg => q_move (v := .bool ((x6 == (0 : Int)))) rfl rfl) <| rv 54 rfl rfl rfl (q_pickGT (a := (x5 == (0 : Int))) (b := (x6 == (0 : Int))) rfl rfl rfl rfl) <| zm 55 (.bool (((x5 == (0 : Int)) && (x6 == (0 : Int))))) rfl rfl <| ro_gval (g := ((x5 == (0 : Int)) && (x6 == (0 : Int)))) (d := (some 56)) rfl (.yes 4 55 true ((x5 == (0 : Int)) && (x6 == (0 : Int))) rfl rfl rfl rfl) rfl (fun hg => q_move (v := .bool (((x7 : Int) == (0 : Int)))) rfl rfl) <| rv 57 rfl rfl rfl (q_pickGT (a := ((x5 == (0 : Int)) && (x6 == (0 : Int)))) (b := ((x7 : Int) == (0 : Int))) rfl rfl rfl rfl) <| za 2 (.bool ((((x5 == (0 : Int)) && (x6 == (0 : Int))) && ((x7 : Int) == (0 : Int))))) rfl rfl <| ro_nil <| wp_ret ?_
     exact zr1 h rfl rfl
    ·refine wp_skip <| wp_seq <| wp_text [0] rfl <| za 2 (.bool (false)) rfl rfl <| ro_nil <| wp_ret ?_
     exact zr1 h rfl rfl
def F93_l1 (b_3 : Slc) (n_4 : Int) (w5 : World) (K6 : Slc × Int → World → Prop) (R : Slc → World → Prop) : Prop :=
 if (decide (n_4 ≥ (128 : Int))) = true then (
  apl 5 (tInt .u8) 1 1 b_3 [(bits .or .u8 (IntKind.u8.wrap n_4) (128 : Int))] w5 fun r10 w9 =>
  ex (Shift (7 : Int) (Int.fdiv n_4 (2 ^ (min ((7 : Int)).toNat IntKind.u64.bits)))) fun d11 =>
  K6 (r10, d11) w9
 ) else (
  apl 5 (tInt .u8) 1 1 b_3 [(IntKind.u8.wrap n_4)] w5 fun r15 w14 =>
  R r15 w14
 )
def F93 (b_1 : Slc) (n_2 : Int) (w : World) (R : Slc → World → Prop) : Prop :=
 lp (fun (s : Slc × Int) w K => F93_l1 s.1 s.2 w K R) (b_1, n_2) w
theorem F93_ok {b_1 : Slc} {n_2 : Int} {w : World} {R : Slc → World → Prop} (h : F93 b_1 n_2 w R) : cl Tryz.prog 93 [tSlc.enc (b_1), .int .u64 (n_2)] tSlc w R := by
 unfold F93 at h
 refine calls_start 20 Tryz.func93 rfl rfl (Nat.le_of_ble_eq_true rfl) <| wp_seq <| wp_text [0] rfl <| za 4 (tSlc.enc ((⟨none, 0, 0⟩ : Slc))) rfl rfl <| ro_nil <| wp_seq <| wp_block <| loop_at (σ := Slc × Int) (fr := fun g (s : Slc × Int) => upd (upd (g) 0 (tSlc.enc (s.1))) 1 (.int .u64 (s.2))) (s0 := (b_1, n_2)) (upd_step (upd_step rfl rfl) rfl) h ?_
 rintro ⟨b_3, n_4⟩ g w5 K6 h
 unfold F93_l1 at h
 refine wp_seq <| wp_seq <| wp_text [0, 1] rfl <| zm 5 (.int .u64 (n_4)) rfl rfl <| rv 6 rfl rfl rfl (q_geq (a := n_4) (b := (128 : Int)) rfl rfl rfl) <| ro_nil <| zi h rfl (fun _ h => ?_) fun _ h => ?_
 ·refine wp_skip <| wp_seq <| wp_block <| wp_text [0, 1, 2, 3, 4, 5, 6] rfl <| zm 9 (tSlc.enc (b_3)) rfl rfl <| zm 10 (.int .u64 (n_4)) rfl rfl <| rv 11 rfl rfl rfl (q_cvtI (a := n_4) rfl Tryz.underlying61 Tryz.underlying5 rfl) <| rv 12 rfl rfl rfl (q_or (a := (IntKind.u8.wrap n_4)) (b := (128 : Int)) rfl rfl rfl) ?_
  obtain ⟨a7, w8, ha7, hw8, h⟩ := apl_open h
  refine rv 13 rfl rfl rfl (q_rowOf (T := (tInt .u8)) (xs := [(bits .or .u8 (IntKind.u8.wrap n_4) (128 : Int))]) rfl Tryz.underlying25 ok5 inf5 rfl (by decide) (by decide) rfl ha7 hw8) <| ro_wp rfl (.free rfl) (wp_append (d := (some 14)) (T := (tInt .u8)) rfl rfl Tryz.underlying25 ⟨_, Tryz.underlying25⟩ ok5 inf5 rfl rfl (Nat.lt_of_lt_of_le Nat.zero_lt_one (Nat.le_of_ble_eq_true rfl)) rfl rfl h ?_)
  intro r10 w9 h
  refine za 0 (tSlc.enc (r10)) rfl rfl <| ro_nil <| wp_text [0, 1, 2] rfl <| zm 7 (.int .u64 (n_4)) rfl rfl ?_
  obtain ⟨d11, hd11, h⟩ := h
  refine rv 8 rfl rfl rfl (q_shr (a := n_4) (b := (7 : Int)) (r := d11) rfl rfl rfl hd11) <| za 1 (.int .u64 (d11)) rfl rfl <| ro_nil ?_
  exact ⟨(r10, d11), _, arr (upd_step (upd_step rfl rfl) rfl), h⟩
 ·refine wp_exit <| wp_seq <| wp_text [0, 1, 2, 3, 4, 5] rfl <| zm 15 (tSlc.enc (b_3)) rfl rfl <| zm 16 (.int .u64 (n_4)) rfl rfl <| rv 17 rfl rfl rfl (q_cvtI (a := n_4) rfl Tryz.underlying61 Tryz.underlying5 rfl) ?_
  obtain ⟨a12, w13, ha12, hw13, h⟩ := apl_open h
  refine rv 18 rfl rfl rfl (q_rowOf (T := (tInt .u8)) (xs := [(IntKind.u8.wrap n_4)]) rfl Tryz.underlying25 ok5 inf5 rfl (by decide) (by decide) rfl ha12 hw13) <| ro_wp rfl (.free rfl) (wp_append (d := (some 19)) (T := (tInt .u8)) rfl rfl Tryz.underlying25 ⟨_, Tryz.underlying25⟩ ok5 inf5 rfl rfl (Nat.lt_of_lt_of_le Nat.zero_lt_one (Nat.le_of_ble_eq_true rfl)) rfl rfl h ?_)
  intro r15 w14 h
  refine za 4 (tSlc.enc (r15)) rfl rfl <| ro_nil <| wp_ret ?_
  exact zr1 h rfl rfl
def F94 (f_1 : Nat) (w : World) (R : Int → World → Prop) : Prop :=
 cl Tryz.prog 64 [.float .f64 (f_1)] (tInt .i64) w fun r3 w2 =>
 if (r3 == (0 : Int)) = true then (
  cl Tryz.prog 128 [.int .u64 ((0 : Int))] (tTup2 tFlt tBool) w2 fun r5 w4 =>
  R (r5.1 : Int) w4
 ) else (
  R (f_1 : Int) w2
 )
theorem F94_ok {f_1 : Nat} {w : World} {R : Int → World → Prop} (h : F94 f_1 w R) : cl Tryz.prog 94 [.float .f64 (f_1)] (tInt .u64) w R := by
 unfold F94 at h
 refine calls_start 16 Tryz.func94 rfl rfl (Nat.le_of_ble_eq_true rfl) <| wp_seq <| wp_text [0] rfl <| za 2 (.int .u64 ((0 : Int))) rfl rfl <| ro_nil <| wp_seq <| wp_seq <| wp_text [0, 1, 2] rfl <| zm 5 (.float .f64 (f_1)) rfl rfl <| zc ent64 rfl rfl h fun r3 w2 h => rv 7 rfl rfl rfl (q_eql (a := r3) (b := (0 : Int)) rfl rfl rfl) <| ro_nil ?_
 refine zi h rfl (fun _ h => ?_) fun _ h => ?_
 ·refine wp_seq <| wp_text [0, 1, 2, 3, 4, 5] rfl <| zc ent128 rfl rfl h fun r5 w4 h => zm 8 ((tTup2 tFlt tBool).enc (r5)) rfl rfl <| ze 10 (.float .f64 (r5.1)) rfl rfl rfl <| ze 11 (.bool (r5.2)) rfl rfl rfl <| za 3 (.float .f64 (r5.1)) rfl rfl <| za 4 (.bool (r5.2)) rfl rfl <| ro_nil <| wp_seq <| wp_text [0, 1, 2] rfl <| zm 12 (.float .f64 (r5.1)) rfl rfl ?_
  refine rv 13 rfl rfl rfl (q_f64bits (b := r5.1) rfl ext102 rfl) <| za 2 (.int .u64 ((r5.1 : Int))) rfl rfl <| ro_nil <| wp_ret ?_
  exact zr1 h rfl rfl
 ·refine wp_skip <| wp_seq <| wp_text [0, 1, 2] rfl <| zm 14 (.float .f64 (f_1)) rfl rfl <| rv 15 rfl rfl rfl (q_f64bits (b := f_1) rfl ext102 rfl) <| za 2 (.int .u64 ((f_1 : Int))) rfl rfl <| ro_nil <| wp_ret ?_
  exact zr1 h rfl rfl
def F95 (r_1 : (Option Addr)) (w : World) (R : Int → World → Prop) (Pn : Iv → World → Prop) : Prop :=
 dr w fun w2 =>
 ex (NC r_1) fun a3 =>
 ex (RdAt (tInt .i64) (a3.add 1) w2) fun x4 =>
 ex (RdAt tSlc (a3.add 0) w2) fun x5 =>
 if (decide (x4 ≥ (x5.len : Int))) = true then (
  Pn (Iv.mk 131 (T130.enc ((⟨(22 : Int)⟩ : S130)))) w2
 ) else (
  ex (RdAt (tInt .i64) (a3.add 1) w2) fun x6 =>
  st (tInt .i64) (a3.add 1) (IntKind.i64.wrap (x6 + (1 : Int))) w2 fun w7 =>
  dr w7 fun w8 =>
  ex (RdAt tSlc (a3.add 0) w8) fun x9 =>
  ex (RdAt (tInt .i64) (a3.add 1) w8) fun x10 =>
  ex (IxA x9 1 (IntKind.i64.wrap (x10 - (1 : Int)))) fun a11 =>
  ex (RdAt (tInt .u8) a11 w8) fun x12 =>
  R x12 w8
 )
theorem F95_ok {r_1 : (Option Addr)} {w : World} {R : Int → World → Prop} {Pn : Iv → World → Prop} (h : F95 r_1 w R Pn) : clp Tryz.prog 95 [.pointer (r_1)] (tInt .u8) w Pn R := by
 unfold F95 at h
 refine calls_start 33 Tryz.func95 rfl rfl (Nat.le_of_ble_eq_true rfl) <| wp_seq <| wp_text [0] rfl <| za 2 (.int .u8 ((0 : Int))) rfl rfl <| ro_nil <| wp_seq <| wp_seq ?_
 obtain ⟨w2, hw2, h⟩ := dr_open h
 refine wp_drawn 10 mixed rfl (by kernel_rfl) (by intro c a d v w h; cases d <;> exact h) hw2 (fun hD => ?_)
 refine ym 0 3 (.pointer (r_1)) hD rfl rfl ?_
 obtain ⟨a3, ha3, h⟩ := h
 refine yn 1 4 ha3 hD rfl rfl <| yf 2 5 a3 1 Tryz.underlying129 ok3 hD rfl rfl rfl <| ym 4 7 (.pointer (r_1)) hD rfl rfl <| yn 5 8 ha3 hD rfl rfl <| yf 6 9 a3 0 Tryz.underlying129 ok25 hD rfl rfl rfl ?_
 obtain ⟨x4, hx4, h⟩ := h
 refine yr 3 6 hx4 ok3 hD rfl rfl ?_
 obtain ⟨x5, hx5, h⟩ := h
 refine yr 7 10 hx5 ok25 hD rfl rfl <| rp 8 11 hD rfl rfl rfl (fun _ => q_len (s := x5) rfl Tryz.underlying25 rfl) <| rp 9 12 hD rfl rfl rfl (fun _ => q_geq (a := x4) (b := (x5.len : Int)) rfl rfl rfl) <| rd_nil (by kernel_rfl) <| zi h rfl (fun _ h => ?_) fun _ h => ?_
 ·refine wp_text [0, 1, 2] rfl <| rv 13 rfl rfl rfl (q_build131_0 (v0 := (22 : Int)) rfl rfl) <| rv 14 rfl rfl rfl (q_mkI (v := T130.enc ((⟨(22 : Int)⟩ : S130))) rfl Tryz.underlying131 rfl rfl) <| ro_wp rfl (.free rfl) (wp_panic (v := (Iv.mk 131 (T130.enc ((⟨(22 : Int)⟩ : S130))))) rfl rfl ⟨_, _, rfl⟩ ?_)
  exact pan_ok (P := Tryz.prog) (fn := Tryz.f95) h
 ·refine wp_skip <| wp_seq <| wp_text [0, 1, 2, 3, 4, 5, 6, 7] rfl <| zm 15 (.pointer (r_1)) rfl rfl <| zn 16 ha3 rfl rfl <| zf 17 a3 1 Tryz.underlying129 ok3 rfl rfl rfl ?_
  obtain ⟨x6, hx6, h⟩ := h
  refine zl 18 hx6 ok3 rfl rfl <| rv 19 rfl rfl rfl (q_add (a := x6) (b := (1 : Int)) rfl rfl rfl) <| zn 20 ha3 rfl rfl <| zf 21 a3 1 Tryz.underlying129 ok3 rfl rfl rfl ?_
  obtain ⟨w7, hw7, hrw7, h⟩ := st_open h
  refine ro_skip (d := none) rfl (.free rfl) rfl (q_store (T := (tInt .i64)) (u := (IntKind.i64.wrap (x6 + (1 : Int)))) (a := (a3.add 1)) rfl ok3 rfl rfl hrw7 hw7) <| ro_nil <| wp_seq ?_
  obtain ⟨w8, hw8, h⟩ := dr_open h
  refine wp_drawn 12 mixed rfl (by kernel_rfl) (by intro c a d v w h; cases d <;> exact h) hw8 (fun hD => ?_)
  refine ym 0 22 (.pointer (r_1)) hD rfl rfl <| yn 1 23 ha3 hD rfl rfl <| yf 2 24 a3 0 Tryz.underlying129 ok25 hD rfl rfl rfl <| ym 4 26 (.pointer (r_1)) hD rfl rfl <| yn 5 27 ha3 hD rfl rfl <| yf 6 28 a3 1 Tryz.underlying129 ok3 hD rfl rfl rfl ?_
  obtain ⟨x9, hx9, h⟩ := h
  refine yr 3 25 hx9 ok25 hD rfl rfl ?_
  obtain ⟨x10, hx10, h⟩ := h
  refine yr 7 29 hx10 ok3 hD rfl rfl <| rp 8 30 hD rfl rfl rfl (fun _ => q_sub (a := x10) (b := (1 : Int)) rfl rfl rfl) ?_
  obtain ⟨a11, ha11, h⟩ := h
  refine rp 9 31 hD rfl rfl rfl (fun _ => q_indexAddr (s := x9) (k := .i64) (i := (IntKind.i64.wrap (x10 - (1 : Int)))) rfl Tryz.underlying25 ok5 rfl rfl ha11) ?_
  obtain ⟨x12, hx12, h⟩ := h
  refine yr 10 32 hx12 ok5 hD rfl rfl <| ya 11 2 (.int .u8 (x12)) hD rfl rfl <| rd_nil (by kernel_rfl) <| wp_ret ?_
  exact zr1 h rfl rfl
def F96_l1 (r_1 : (Option Addr)) (n_2 : Int) (by_3 : Int) (w4 : World) (K5 : Int × Int → World → Prop) (R : Int → World → Prop) (Pn : Iv → World → Prop) : Prop :=
 clp Tryz.prog 95 [.pointer (r_1)] (tInt .u8) w4 Pn fun r7 w6 =>
 if (((by_3 == (63 : Int)) && (decide (r7 > (1 : Int)))) || ((decide (by_3 > (0 : Int))) && (r7 == (0 : Int)))) = true then (
  Pn (Iv.mk 131 (T130.enc ((⟨(23 : Int)⟩ : S130)))) w6
 ) else (
  ex (Shift by_3 (IntKind.u64.wrap ((IntKind.u64.wrap (bits .and .u8 r7 (127 : Int))) * 2 ^ (min (by_3).toNat IntKind.u64.bits)))) fun d8 =>
  if (decide (r7 < (128 : Int))) = true then (
   R (bits .or .u64 n_2 d8) w6
  ) else (
   K5 ((bits .or .u64 n_2 d8), (IntKind.u64.wrap (by_3 + (7 : Int)))) w6
  )
 )
def F96 (r_1 : (Option Addr)) (w : World) (R : Int → World → Prop) (Pn : Iv → World → Prop) : Prop :=
 lp (fun (s : Int × Int) w K => F96_l1 r_1 s.1 s.2 w K R Pn) ((0 : Int), (0 : Int)) w
theorem F96_ok {r_1 : (Option Addr)} {w : World} {R : Int → World → Prop} {Pn : Iv → World → Prop} (h : F96 r_1 w R Pn) : clp Tryz.prog 96 [.pointer (r_1)] (tInt .u64) w Pn R := by
 unfold F96 at h
 refine calls_start 36 Tryz.func96 rfl rfl (Nat.le_of_ble_eq_true rfl) <| wp_seq <| wp_text [0] rfl <| za 2 (.int .u64 ((0 : Int))) rfl rfl <| ro_nil <| wp_seq <| wp_text [0] rfl <| za 3 (.int .u64 ((0 : Int))) rfl rfl <| ro_nil <| wp_seq <| wp_text [0] rfl <| za 4 (.int .u64 ((0 : Int))) rfl rfl ?_
 refine ro_nil <| wp_block <| loop_at (σ := Int × Int) (fr := fun g (s : Int × Int) => upd (upd (upd (g) 0 (.pointer (r_1))) 3 (.int .u64 (s.1))) 4 (.int .u64 (s.2))) (s0 := ((0 : Int), (0 : Int))) (upd_step (upd_step (upd_step rfl rfl) rfl) rfl) h ?_
 rintro ⟨n_2, by_3⟩ g w4 K5 h
 unfold F96_l1 at h
 refine wp_seq <| wp_block <| wp_seq <| wp_text [0, 1, 2] rfl <| zm 8 (.pointer (r_1)) rfl rfl <| ro_wp rfl (.free rfl) (wp_clp (d := (some 9)) rfl (q_call (k := 95) (l := [.pointer (r_1)]) rfl ent95 rfl) h ?_ ?_)
 ·exact fun _ _ h => pan_ok (P := Tryz.prog) (fn := Tryz.f96) h
 intro r7 w6 h
 refine za 5 (.int .u8 (r7)) rfl rfl <| ro_nil <| wp_seq <| wp_seq <| wp_text [0, 1, 2, 3, 4, 5, 6, 7, 8, 9, 10, 11, 12, 13] rfl <| zm 10 (.int .u64 (by_3)) rfl rfl <| rv 11 rfl rfl rfl (q_eql (a := by_3) (b := (63 : Int)) rfl rfl rfl) <| zm 12 (.bool ((by_3 == (63 : Int)))) rfl rfl <| ro_gval (g := (by_3 == (63 : Int))) (d := (some 13)) rfl (.yes 2 12 true (by_3 == (63 : Int)) rfl rfl rfl rfl) rfl (fun hg => q_move (v := .int .u8 (r7)) rfl rfl) <| ro_gval (g := (by_3 == (63 : Int))) (d := (some 14)) rfl (.yes 2 12 true (by_3 == (63 : Int)) rfl rfl rfl rfl) rfl (fun hg => q_gtr (k := .u8) (a := r7) (b := (1 : Int)) rfl (gvb_yes hg) rfl) <| rv 15 rfl rfl rfl (q_pickGT (a := (by_3 == (63 : Int))) (b := (decide (r7 > (1 : Int)))) rfl rfl rfl rfl) <| zm 16 (.bool (((by_3 == (63 : Int)) && (decide (r7 > (1 : Int)))))) rfl rfl ?_
 refine ro_gval (g := (!((by_3 == (63 : Int)) && (decide (r7 > (1 : Int)))))) (d := (some 17)) rfl (.no 6 16 true ((by_3 == (63 : Int)) && (decide (r7 > (1 : Int)))) rfl rfl rfl rfl) rfl (fun hg => q_move (v := .int .u64 (by_3)) rfl rfl) <| ro_gval (g := (!((by_3 == (63 : Int)) && (decide (r7 > (1 : Int)))))) (d := (some 18)) rfl (.no 6 16 true ((by_3 == (63 : Int)) && (decide (r7 > (1 : Int)))) rfl rfl rfl rfl) rfl (fun hg => q_gtr (k := .u64) (a := by_3) (b := (0 : Int)) rfl (gvb_yes hg) rfl) <| ro_gval (g := (!((by_3 == (63 : Int)) && (decide (r7 > (1 : Int)))))) (d := (some 19)) rfl (.no 6 16 true ((by_3 == (63 : Int)) && (decide (r7 > (1 : Int)))) rfl rfl rfl rfl) rfl (fun hg => q_move (v := .bool ((decide (by_3 > (0 : Int))))) rfl (gvb_yes hg)) <| ro_gval (g := ((!((by_3 == (63 : Int)) && (decide (r7 > (1 : Int))))) && (decide (by_3 > (0 : Int))))) (d := (some 20)) rfl (.yes 9 19 (!((by_3 == (63 : Int)) && (decide (r7 > (1 : Int))))) (decide (by_3 > (0 : Int))) rfl rfl rfl rfl) rfl (fun hg => q_move (v := .int .u8 (r7)) rfl rfl) <| ro_gval (g := ((!((by_3 == (63 : Int)) && (decide (r7 > (1 : Int))))) && (decide (by_3 > (0 : Int))))) (d := (some 21)) rfl (.yes 9 19 (!((by_3 == (63 : Int)) && (decide (r7 > (1 : Int))))) (decide (by_3 > (0 : Int))) rfl rfl rfl rfl) rfl (fun hg => q_eql (k := .u8) (a := r7) (b := (0 : Int)) rfl (gvb_yes hg) rfl) <| ro_gval (g := (!((by_3 == (63 : Int)) && (decide (r7 > (1 : Int)))))) (d := (some 22)) rfl (.no 6 16 true ((by_3 == (63 : Int)) && (decide (r7 > (1 : Int)))) rfl rfl rfl rfl) rfl (fun hg => q_pickNT (g0 := (!((by_3 == (63 : Int)) && (decide (r7 > (1 : Int)))))) (a := (decide (by_3 > (0 : Int)))) (b := (r7 == (0 : Int))) hg rfl rfl rfl rfl) <| rv 23 rfl rfl rfl (q_pickGF (a := ((by_3 == (63 : Int)) && (decide (r7 > (1 : Int))))) (c := ((decide (by_3 > (0 : Int))) && (r7 == (0 : Int)))) rfl rfl rfl rfl) <| ro_nil <| zi h rfl (fun _ h => ?_) fun _ h => ?_
 ·refine wp_text [0, 1, 2] rfl <| rv 24 rfl rfl rfl (q_build131_0 (v0 := (23 : Int)) rfl rfl) <| rv 25 rfl rfl rfl (q_mkI (v := T130.enc ((⟨(23 : Int)⟩ : S130))) rfl Tryz.underlying131 rfl rfl) <| ro_wp rfl (.free rfl) (wp_panic (v := (Iv.mk 131 (T130.enc ((⟨(23 : Int)⟩ : S130))))) rfl rfl ⟨_, _, rfl⟩ ?_)
  exact pan_ok (P := Tryz.prog) (fn := Tryz.f96) h
 ·refine wp_skip <| wp_seq <| wp_text [0, 1, 2, 3, 4, 5, 6, 7] rfl <| zm 26 (.int .u64 (n_2)) rfl rfl <| zm 27 (.int .u8 (r7)) rfl rfl <| rv 28 rfl rfl rfl (q_and (a := r7) (b := (127 : Int)) rfl rfl rfl) <| rv 29 rfl rfl rfl (q_cvtI (a := (bits .and .u8 r7 (127 : Int))) rfl Tryz.underlying5 Tryz.underlying61 rfl) <| zm 30 (.int .u64 (by_3)) rfl rfl ?_
  obtain ⟨d8, hd8, h⟩ := h
  refine rv 31 rfl rfl rfl (q_shl (a := (IntKind.u64.wrap (bits .and .u8 r7 (127 : Int)))) (b := by_3) (r := d8) rfl rfl rfl hd8) <| rv 32 rfl rfl rfl (q_or (a := n_2) (b := d8) rfl rfl rfl) <| za 3 (.int .u64 ((bits .or .u64 n_2 d8))) rfl rfl <| ro_nil <| wp_seq <| wp_text [0, 1] rfl <| zm 33 (.int .u8 (r7)) rfl rfl <| rv 34 rfl rfl rfl (q_lss (a := r7) (b := (128 : Int)) rfl rfl rfl) <| ro_nil <| zi h rfl (fun _ h => ?_) fun _ h => ?_
  ·refine wp_seq <| wp_text [0, 1] rfl <| zm 35 (.int .u64 ((bits .or .u64 n_2 d8))) rfl rfl <| za 2 (.int .u64 ((bits .or .u64 n_2 d8))) rfl rfl <| ro_nil <| wp_ret ?_
   exact zr1 h rfl rfl
  ·refine wp_skip <| wp_text [0, 1, 2] rfl <| zm 6 (.int .u64 (by_3)) rfl rfl <| rv 7 rfl rfl rfl (q_add (a := by_3) (b := (7 : Int)) rfl rfl rfl) <| za 4 (.int .u64 ((IntKind.u64.wrap (by_3 + (7 : Int))))) rfl rfl <| ro_nil ?_
   exact ⟨((bits .or .u64 n_2 d8), (IntKind.u64.wrap (by_3 + (7 : Int)))), _, arr (upd_step (upd_step (upd_step rfl rfl) rfl) rfl), h⟩
def F97_l1 (r_1 : (Option Addr)) (n_2 : Int) (t_3 : Int) (w4 : World) (K5 : Int × Int → World → Prop) (R : Nat → World → Prop) (Pn : Iv → World → Prop) : Prop :=
 if (decide (t_3 < (8 : Int))) = true then (
  ex (Shift (8 : Int) (IntKind.u64.wrap (n_2 * 2 ^ (min ((8 : Int)).toNat IntKind.u64.bits)))) fun d6 =>
  clp Tryz.prog 95 [.pointer (r_1)] (tInt .u8) w4 Pn fun r8 w7 =>
  K5 ((bits .or .u64 d6 (IntKind.u64.wrap r8)), (IntKind.i64.wrap (t_3 + (1 : Int)))) w7
 ) else (
  cl Tryz.prog 94 [.float .f64 ((Int.toNat n_2))] (tInt .u64) w4 fun r10 w9 =>
  if (r10 != n_2) = true then (
   Pn (Iv.mk 131 (T130.enc ((⟨(25 : Int)⟩ : S130)))) w9
  ) else (
   R (Int.toNat n_2) w9
  )
 )
def F97 (r_1 : (Option Addr)) (w : World) (R : Nat → World → Prop) (Pn : Iv → World → Prop) : Prop :=
 lp (fun (s : Int × Int) w K => F97_l1 r_1 s.1 s.2 w K R Pn) ((0 : Int), (0 : Int)) w
theorem F97_ok {r_1 : (Option Addr)} {w : World} {R : Nat → World → Prop} {Pn : Iv → World → Prop} (h : F97 r_1 w R Pn) : clp Tryz.prog 97 [.pointer (r_1)] tFlt w Pn R := by
 unfold F97 at h
 refine calls_start 23 Tryz.func97 rfl rfl (Nat.le_of_ble_eq_true rfl) <| wp_seq <| wp_text [0] rfl <| za 2 (.float .f64 ((0 : Nat))) rfl rfl <| ro_nil <| wp_seq <| wp_text [0] rfl <| za 3 (.int .u64 ((0 : Int))) rfl rfl <| ro_nil <| wp_seq <| wp_seq <| wp_text [0] rfl ?_
 refine zm 5 (.int .i64 ((0 : Int))) rfl rfl <| ro_nil <| wp_block <| loop_at (σ := Int × Int) (fr := fun g (s : Int × Int) => upd (upd (upd (g) 0 (.pointer (r_1))) 3 (.int .u64 (s.1))) 5 (.int .i64 (s.2))) (s0 := ((0 : Int), (0 : Int))) (upd_step (upd_step (upd_step rfl rfl) rfl) rfl) h ?_
 rintro ⟨n_2, t_3⟩ g w4 K5 h
 unfold F97_l1 at h
 refine wp_seq <| wp_text [0] rfl <| rv 6 rfl rfl rfl (q_lss (a := t_3) (b := (8 : Int)) rfl rfl rfl) <| ro_nil <| wp_seq <| zi h rfl (fun _ h => ?_) fun _ h => ?_
 ·refine wp_skip <| wp_seq <| wp_block <| wp_text [0, 1, 2, 3, 4, 5, 6] rfl <| zm 7 (.int .u64 (n_2)) rfl rfl ?_
  obtain ⟨d6, hd6, h⟩ := h
  refine rv 8 rfl rfl rfl (q_shl (a := n_2) (b := (8 : Int)) (r := d6) rfl rfl rfl hd6) <| zm 9 (.pointer (r_1)) rfl rfl <| ro_wp rfl (.free rfl) (wp_clp (d := (some 10)) rfl (q_call (k := 95) (l := [.pointer (r_1)]) rfl ent95 rfl) h ?_ ?_)
  ·exact fun _ _ h => pan_ok (P := Tryz.prog) (fn := Tryz.f97) h
  intro r8 w7 h
  refine rv 11 rfl rfl rfl (q_cvtI (a := r8) rfl Tryz.underlying5 Tryz.underlying61 rfl) <| rv 12 rfl rfl rfl (q_or (a := d6) (b := (IntKind.u64.wrap r8)) rfl rfl rfl) <| za 3 (.int .u64 ((bits .or .u64 d6 (IntKind.u64.wrap r8)))) rfl rfl <| ro_nil <| wp_text [0, 1] rfl <| rv 13 rfl rfl rfl (q_add (a := t_3) (b := (1 : Int)) rfl rfl rfl) <| zm 5 (.int .i64 ((IntKind.i64.wrap (t_3 + (1 : Int))))) rfl rfl <| ro_nil ?_
  exact ⟨((bits .or .u64 d6 (IntKind.u64.wrap r8)), (IntKind.i64.wrap (t_3 + (1 : Int)))), _, arr (upd_step (upd_step (upd_step rfl rfl) rfl) rfl), h⟩
 ·refine wp_exit <| wp_seq <| wp_text [0, 1, 2] rfl <| zm 14 (.int .u64 (n_2)) rfl rfl <| rv 15 rfl rfl rfl (q_f64from (b := n_2) rfl ext99 rfl) <| za 4 (.float .f64 ((Int.toNat n_2))) rfl rfl <| ro_nil <| wp_seq <| wp_seq <| wp_text [0, 1, 2, 3] rfl <| zm 16 (.float .f64 ((Int.toNat n_2))) rfl rfl <| zc ent94 rfl rfl h fun r10 w9 h => ?_
  refine zm 18 (.int .u64 (n_2)) rfl rfl <| rv 19 rfl rfl rfl (q_neq (a := r10) (b := n_2) rfl rfl rfl) <| ro_nil <| zi h rfl (fun _ h => ?_) fun _ h => ?_
  ·refine wp_text [0, 1, 2] rfl <| rv 20 rfl rfl rfl (q_build131_0 (v0 := (25 : Int)) rfl rfl) <| rv 21 rfl rfl rfl (q_mkI (v := T130.enc ((⟨(25 : Int)⟩ : S130))) rfl Tryz.underlying131 rfl rfl) <| ro_wp rfl (.free rfl) (wp_panic (v := (Iv.mk 131 (T130.enc ((⟨(25 : Int)⟩ : S130))))) rfl rfl ⟨_, _, rfl⟩ ?_)
   exact pan_ok (P := Tryz.prog) (fn := Tryz.f97) h
  ·refine wp_skip <| wp_seq <| wp_text [0, 1] rfl <| zm 22 (.float .f64 ((Int.toNat n_2))) rfl rfl <| za 2 (.float .f64 ((Int.toNat n_2))) rfl rfl <| ro_nil <| wp_ret ?_
   exact zr1 h rfl rfl
def F98 (r_1 : (Option Addr)) (w : World) (R : (List UInt8) → World → Prop) (Pn : Iv → World → Prop) : Prop :=
 clp Tryz.prog 96 [.pointer (r_1)] (tInt .u64) w Pn fun r3 w2 =>
 if (decide (r3 > (1000 : Int))) = true then (
  Pn (Iv.mk 131 (T130.enc ((⟨(24 : Int)⟩ : S130)))) w2
 ) else (
  dr w2 fun w4 =>
  ex (NC r_1) fun a5 =>
  ex (RdAt tSlc (a5.add 0) w4) fun x6 =>
  ex (RdAt (tInt .i64) (a5.add 1) w4) fun x7 =>
  if (decide ((IntKind.u64.wrap (IntKind.i64.wrap ((x6.len : Int) - x7))) < r3)) = true then (
   Pn (Iv.mk 131 (T130.enc ((⟨(22 : Int)⟩ : S130)))) w4
  ) else (
   ex (RdAt (tInt .i64) (a5.add 1) w4) fun x8 =>
   st (tInt .i64) (a5.add 1) (IntKind.i64.wrap (x8 + (IntKind.i64.wrap r3))) w4 fun w9 =>
   dr w9 fun w10 =>
   ex (RdAt tSlc (a5.add 0) w10) fun x11 =>
   ex (RdAt (tInt .i64) (a5.add 1) w10) fun x12 =>
   ex (RdAt (tInt .i64) (a5.add 1) w10) fun x13 =>
   ex (Sub x11 1 (IntKind.i64.wrap (x12 - (IntKind.i64.wrap r3))) x13 ((x11).cap : Int)) fun s14 =>
   ex (B2S s14 w10) fun s15 =>
   R s15 w10
  )
 )
theorem F98_ok {r_1 : (Option Addr)} {w : World} {R : (List UInt8) → World → Prop} {Pn : Iv → World → Prop} (h : F98 r_1 w R Pn) : clp Tryz.prog 98 [.pointer (r_1)] tStr w Pn R := by
 unfold F98 at h
 refine calls_start 51 Tryz.func98 rfl rfl (Nat.le_of_ble_eq_true rfl) <| wp_seq <| wp_text [0] rfl <| za 2 (.string ⟨(([] : List UInt8)).toArray⟩) rfl rfl <| ro_nil <| wp_seq <| wp_text [0, 1, 2] rfl <| zm 4 (.pointer (r_1)) rfl rfl <| ro_wp rfl (.free rfl) (wp_clp (d := (some 5)) rfl (q_call (k := 96) (l := [.pointer (r_1)]) rfl ent96 rfl) h ?_ ?_)
 ·exact fun _ _ h => pan_ok (P := Tryz.prog) (fn := Tryz.f98) h
 intro r3 w2 h
 refine za 3 (.int .u64 (r3)) rfl rfl <| ro_nil <| wp_seq <| wp_seq <| wp_text [0, 1] rfl <| zm 6 (.int .u64 (r3)) rfl rfl <| rv 7 rfl rfl rfl (q_gtr (a := r3) (b := (1000 : Int)) rfl rfl rfl) <| ro_nil <| zi h rfl (fun _ h => ?_) fun _ h => ?_
 ·refine wp_text [0, 1, 2] rfl <| rv 8 rfl rfl rfl (q_build131_0 (v0 := (24 : Int)) rfl rfl) <| rv 9 rfl rfl rfl (q_mkI (v := T130.enc ((⟨(24 : Int)⟩ : S130))) rfl Tryz.underlying131 rfl rfl) <| ro_wp rfl (.free rfl) (wp_panic (v := (Iv.mk 131 (T130.enc ((⟨(24 : Int)⟩ : S130))))) rfl rfl ⟨_, _, rfl⟩ ?_)
  exact pan_ok (P := Tryz.prog) (fn := Tryz.f98) h
 ·refine wp_skip <| wp_seq <| wp_seq ?_
  obtain ⟨w4, hw4, h⟩ := dr_open h
  refine wp_drawn 13 mixed rfl (by kernel_rfl) (by intro c a d v w h; cases d <;> exact h) hw4 (fun hD => ?_)
  refine ym 0 10 (.pointer (r_1)) hD rfl rfl ?_
  obtain ⟨a5, ha5, h⟩ := h
  refine yn 1 11 ha5 hD rfl rfl <| yf 2 12 a5 0 Tryz.underlying129 ok25 hD rfl rfl rfl <| ym 5 15 (.pointer (r_1)) hD rfl rfl <| yn 6 16 ha5 hD rfl rfl <| yf 7 17 a5 1 Tryz.underlying129 ok3 hD rfl rfl rfl <| ym 11 21 (.int .u64 (r3)) hD rfl rfl ?_
  obtain ⟨x6, hx6, h⟩ := h
  refine yr 3 13 hx6 ok25 hD rfl rfl <| rp 4 14 hD rfl rfl rfl (fun _ => q_len (s := x6) rfl Tryz.underlying25 rfl) ?_
  obtain ⟨x7, hx7, h⟩ := h
  refine yr 8 18 hx7 ok3 hD rfl rfl <| rp 9 19 hD rfl rfl rfl (fun _ => q_sub (a := (x6.len : Int)) (b := x7) rfl rfl rfl) <| rp 10 20 hD rfl rfl rfl (fun _ => q_cvtI (a := (IntKind.i64.wrap ((x6.len : Int) - x7))) rfl Tryz.underlying3 Tryz.underlying61 rfl) <| rp 12 22 hD rfl rfl rfl (fun _ => q_lss (a := (IntKind.u64.wrap (IntKind.i64.wrap ((x6.len : Int) - x7)))) (b := r3) rfl rfl rfl) <| rd_nil (by kernel_rfl) <| zi h rfl (fun _ h => ?_) fun _ h => ?_
  ·refine wp_text [0, 1, 2] rfl <| rv 23 rfl rfl rfl (q_build131_0 (v0 := (22 : Int)) rfl rfl) <| rv 24 rfl rfl rfl (q_mkI (v := T130.enc ((⟨(22 : Int)⟩ : S130))) rfl Tryz.underlying131 rfl rfl) <| ro_wp rfl (.free rfl) (wp_panic (v := (Iv.mk 131 (T130.enc ((⟨(22 : Int)⟩ : S130))))) rfl rfl ⟨_, _, rfl⟩ ?_)
   exact pan_ok (P := Tryz.prog) (fn := Tryz.f98) h
  ·refine wp_skip <| wp_seq <| wp_text [0, 1, 2, 3, 4, 5, 6, 7, 8, 9] rfl <| zm 25 (.pointer (r_1)) rfl rfl <| zn 26 ha5 rfl rfl <| zf 27 a5 1 Tryz.underlying129 ok3 rfl rfl rfl ?_
   obtain ⟨x8, hx8, h⟩ := h
   refine zl 28 hx8 ok3 rfl rfl <| zm 29 (.int .u64 (r3)) rfl rfl <| rv 30 rfl rfl rfl (q_cvtI (a := r3) rfl Tryz.underlying61 Tryz.underlying3 rfl) <| rv 31 rfl rfl rfl (q_add (a := x8) (b := (IntKind.i64.wrap r3)) rfl rfl rfl) <| zn 32 ha5 rfl rfl <| zf 33 a5 1 Tryz.underlying129 ok3 rfl rfl rfl ?_
   obtain ⟨w9, hw9, hrw9, h⟩ := st_open h
   refine ro_skip (d := none) rfl (.free rfl) rfl (q_store (T := (tInt .i64)) (u := (IntKind.i64.wrap (x8 + (IntKind.i64.wrap r3)))) (a := (a5.add 1)) rfl ok3 rfl rfl hrw9 hw9) <| ro_nil <| wp_seq ?_
   obtain ⟨w10, hw10, h⟩ := dr_open h
   refine wp_drawn 18 mixed rfl (by kernel_rfl) (by intro c a d v w h; cases d <;> exact h) hw10 (fun hD => ?_)
   refine ym 0 34 (.pointer (r_1)) hD rfl rfl <| yn 1 35 ha5 hD rfl rfl <| yf 2 36 a5 0 Tryz.underlying129 ok25 hD rfl rfl rfl <| ym 4 38 (.pointer (r_1)) hD rfl rfl <| yn 5 39 ha5 hD rfl rfl <| yf 6 40 a5 1 Tryz.underlying129 ok3 hD rfl rfl rfl <| ym 8 42 (.int .u64 (r3)) hD rfl rfl <| rp 9 43 hD rfl rfl rfl (fun _ => q_cvtI (a := r3) rfl Tryz.underlying61 Tryz.underlying3 rfl) <| ym 11 45 (.pointer (r_1)) hD rfl rfl <| yn 12 46 ha5 hD rfl rfl <| yf 13 47 a5 1 Tryz.underlying129 ok3 hD rfl rfl rfl ?_
   obtain ⟨x11, hx11, h⟩ := h
   refine yr 3 37 hx11 ok25 hD rfl rfl ?_
   obtain ⟨x12, hx12, h⟩ := h
   refine yr 7 41 hx12 ok3 hD rfl rfl <| rp 10 44 hD rfl rfl rfl (fun _ => q_sub (a := x12) (b := (IntKind.i64.wrap r3)) rfl rfl rfl) ?_
   obtain ⟨x13, hx13, h⟩ := h
   refine yr 14 48 hx13 ok3 hD rfl rfl ?_
   obtain ⟨s14, hs14, h⟩ := h
   refine rp 15 49 hD rfl rfl rfl (fun _ => q_sliceLH (s := x11) (l := (IntKind.i64.wrap (x12 - (IntKind.i64.wrap r3)))) (h := x13) rfl Tryz.underlying25 ok5 rfl rfl rfl hs14) ?_
   obtain ⟨s15, hs15, h⟩ := h
   refine rd_read (i := 16) (d := (some 50)) (fun W => (B2S s14 W) s15) hD (by kernel_rfl) (by kernel_rfl) rfl (.free rfl) rfl (fun W hr => q_b2s (b := s14) (r := s15) rfl Tryz.underlying25 Tryz.underlying5 Tryz.underlying9 rfl hr) hs15 <| ya 17 2 (.string ⟨(s15).toArray⟩) hD rfl rfl <| rd_nil (by kernel_rfl) <| wp_ret ?_
   exact zr1 h rfl rfl
end Go.Proofs.YtehclfjjjiiieaaGreat.Cf
namespace Go.Proofs.YtehclfjjjiiieaaGreat.Cf
open Go
set_option maxRecDepth 100000
set_option maxHeartbeats 1000000
set_option linter.unusedVariables false
set_option linter.unusedSimpArgs false
def F105_j1 (f_3 : Nat) (w4 : World) (R : Bool → World → Prop) : Prop :=
 R (fcmp .gtr f_3 (9218868437227405311 : Nat)) w4
def F105 (f_1 : Nat) (sign_2 : Int) (w : World) (R : Bool → World → Prop) : Prop :=
 if (sign_2 == (0 : Int)) = true then (
  cl Tryz.prog 130 [.float .f64 (f_1)] tFlt w fun r6 w5 =>
  F105_j1 r6 w5 R
 ) else (
  if (decide (sign_2 < (0 : Int))) = true then (
   F105_j1 (Op.negFloat .f64 f_1) w R
  ) else (
   F105_j1 f_1 w R
  )
 )
theorem F105_ok {f_1 : Nat} {sign_2 : Int} {w : World} {R : Bool → World → Prop} (h : F105 f_1 sign_2 w R) : cl Tryz.prog 105 [.float .f64 (f_1), .int .i64 (sign_2)] tBool w R := by
 unfold F105 at h
 refine calls_start 15 Tryz.func105 rfl rfl (Nat.le_of_ble_eq_true rfl) <| wp_seq <| wp_text [0] rfl <| za 4 (.bool (false)) rfl rfl <| ro_nil <| seq_join (σ := Nat) (J := fun (s : Nat) w => F105_j1 s w R) (fr := fun g (s : Nat) => upd (g) 0 (.float .f64 (s))) ?_ ?_
 ·rintro f_3 g w4 h
  unfold F105_j1 at h
  refine wp_seq <| wp_text [0, 1, 2] rfl <| zm 13 (.float .f64 (f_3)) rfl rfl <| rv 14 rfl rfl rfl (q_fcmp (op := .gtr) (a := f_3) (b := (9218868437227405311 : Nat)) rfl (by decide) rfl rfl) <| za 4 (.bool ((fcmp .gtr f_3 (9218868437227405311 : Nat)))) rfl rfl <| ro_nil <| wp_ret ?_
  exact zr1 h rfl rfl
 ·refine wp_seq <| wp_text [0, 1] rfl <| zm 5 (.int .i64 (sign_2)) rfl rfl <| rv 6 rfl rfl rfl (q_eql (a := sign_2) (b := (0 : Int)) rfl rfl rfl) <| ro_nil <| zi h rfl (fun _ h => ?_) fun _ h => ?_
  ·refine wp_text [0, 1, 2] rfl <| zm 7 (.float .f64 (f_1)) rfl rfl <| zc ent130 rfl rfl h fun r6 w5 h => za 0 (.float .f64 (r6)) rfl rfl <| ro_nil ?_
   exact ⟨(r6), _, arr (upd_step rfl rfl), h⟩
  ·refine wp_seq <| wp_text [0, 1] rfl <| zm 9 (.int .i64 (sign_2)) rfl rfl <| rv 10 rfl rfl rfl (q_lss (a := sign_2) (b := (0 : Int)) rfl rfl rfl) <| ro_nil <| zi h rfl (fun _ h => ?_) fun _ h => ?_
   ·refine wp_text [0, 1, 2] rfl <| zm 11 (.float .f64 (f_1)) rfl rfl <| rv 12 rfl rfl rfl (q_negF (a := f_1) rfl rfl) <| za 0 (.float .f64 ((Op.negFloat .f64 f_1))) rfl rfl <| ro_nil ?_
    exact ⟨((Op.negFloat .f64 f_1)), _, arr (upd_step rfl rfl), h⟩
   ·refine wp_skip ?_
    exact ⟨(f_1), _, arr (upd_step rfl rfl), h⟩
def F106 (f_1 : Nat) (w : World) (R : Int → World → Prop) : Prop :=
 if (fcmp .neq f_1 f_1) = true then (
  R (0 : Int) w
 ) else (
  ex (Shift (63 : Int) (Int.fdiv (f_1 : Int) (2 ^ (min ((63 : Int)).toNat IntKind.u64.bits)))) fun d2 =>
  if (d2 == (1 : Int)) = true then (
   R (bits .xor .u64 IntKind.u64.max (f_1 : Int)) w
  ) else (
   R (bits .or .u64 (f_1 : Int) (9223372036854775808 : Int)) w
  )
 )
theorem F106_ok {f_1 : Nat} {w : World} {R : Int → World → Prop} (h : F106 f_1 w R) : cl Tryz.prog 106 [.float .f64 (f_1)] (tInt .u64) w R := by
 unfold F106 at h
 refine calls_start 16 Tryz.func106 rfl rfl (Nat.le_of_ble_eq_true rfl) <| wp_seq <| wp_text [0] rfl <| za 2 (.int .u64 ((0 : Int))) rfl rfl <| ro_nil <| wp_seq <| wp_seq <| wp_text [0, 1, 2] rfl <| zm 4 (.float .f64 (f_1)) rfl rfl <| zm 5 (.float .f64 (f_1)) rfl rfl <| rv 6 rfl rfl rfl (q_fcmp (op := .neq) (a := f_1) (b := f_1) rfl (by decide) rfl rfl) <| ro_nil ?_
 refine zi h rfl (fun _ h => ?_) fun _ h => ?_
 ·refine wp_seq <| wp_text [0] rfl <| za 2 (.int .u64 ((0 : Int))) rfl rfl <| ro_nil <| wp_ret ?_
  exact zr1 h rfl rfl
 ·refine wp_skip <| wp_seq <| wp_text [0, 1, 2] rfl <| zm 7 (.float .f64 (f_1)) rfl rfl <| rv 8 rfl rfl rfl (q_f64bits (b := f_1) rfl ext102 rfl) <| za 3 (.int .u64 ((f_1 : Int))) rfl rfl <| ro_nil <| wp_seq <| wp_seq <| wp_text [0, 1, 2] rfl <| zm 9 (.int .u64 ((f_1 : Int))) rfl rfl ?_
  obtain ⟨d2, hd2, h⟩ := h
  refine rv 10 rfl rfl rfl (q_shr (a := (f_1 : Int)) (b := (63 : Int)) (r := d2) rfl rfl rfl hd2) <| rv 11 rfl rfl rfl (q_eql (a := d2) (b := (1 : Int)) rfl rfl rfl) <| ro_nil <| zi h rfl (fun _ h => ?_) fun _ h => ?_
  ·refine wp_seq <| wp_text [0, 1, 2] rfl <| zm 12 (.int .u64 ((f_1 : Int))) rfl rfl <| rv 13 rfl rfl rfl (q_notU (a := (f_1 : Int)) rfl rfl rfl) <| za 2 (.int .u64 ((bits .xor .u64 IntKind.u64.max (f_1 : Int)))) rfl rfl <| ro_nil <| wp_ret ?_
   exact zr1 h rfl rfl
  ·refine wp_skip <| wp_seq <| wp_text [0, 1, 2] rfl <| zm 14 (.int .u64 ((f_1 : Int))) rfl rfl <| rv 15 rfl rfl rfl (q_or (a := (f_1 : Int)) (b := (9223372036854775808 : Int)) rfl rfl rfl) <| za 2 (.int .u64 ((bits .or .u64 (f_1 : Int) (9223372036854775808 : Int)))) rfl rfl <| ro_nil <| wp_ret ?_
   exact zr1 h rfl rfl
def F107 (d_1 : (Option Addr)) (n_2 : Int) (w : World) (R : Bool → World → Prop) : Prop :=
 ex (fun x => (decide (n_2 ≥ (0 : Int))) = true → (NC d_1) x) fun a3 =>
 ex (fun x => (decide (n_2 ≥ (0 : Int))) = true → (RdAt tSlc (a3.add 0) w) x) fun x4 =>
 R ((decide (n_2 ≥ (0 : Int))) && (decide (n_2 < (x4.len : Int)))) w
theorem F107_ok {d_1 : (Option Addr)} {n_2 : Int} {w : World} {R : Bool → World → Prop} (h : F107 d_1 n_2 w R) : cl Tryz.prog 107 [.pointer (d_1), .int .i64 (n_2)] tBool w R := by
 unfold F107 at h
 refine calls_start 16 Tryz.func107 rfl rfl (Nat.le_of_ble_eq_true rfl) <| wp_seq <| wp_text [0] rfl <| za 4 (.bool (false)) rfl rfl <| ro_nil <| wp_seq <| wp_text [0, 1, 2, 3, 4, 5, 6, 7, 8, 9, 10, 11] rfl <| zm 5 (.int .i64 (n_2)) rfl rfl <| rv 6 rfl rfl rfl (q_geq (a := n_2) (b := (0 : Int)) rfl rfl rfl) <| zm 7 (.bool ((decide (n_2 ≥ (0 : Int))))) rfl rfl <| ro_gval (g := (decide (n_2 ≥ (0 : Int)))) (d := (some 8)) rfl (.yes 2 7 true (decide (n_2 ≥ (0 : Int))) rfl rfl rfl rfl) rfl (fun hg => q_move (v := .int .i64 (n_2)) rfl rfl) <| ro_gval (g := (decide (n_2 ≥ (0 : Int)))) (d := (some 9)) rfl (.yes 2 7 true (decide (n_2 ≥ (0 : Int))) rfl rfl rfl rfl) rfl (fun hg => q_move (v := .pointer (d_1)) rfl rfl) ?_
 obtain ⟨a3, ha3, h⟩ := h
 refine ro_gval (g := (decide (n_2 ≥ (0 : Int)))) (d := (some 10)) rfl (.yes 2 7 true (decide (n_2 ≥ (0 : Int))) rfl rfl rfl rfl) rfl (fun hg => q_nilCheck (a := a3) rfl ((gvb_yes hg).trans (congrArg Value.pointer (ha3 hg)))) <| ro_gval (g := (decide (n_2 ≥ (0 : Int)))) (d := (some 11)) rfl (.yes 2 7 true (decide (n_2 ≥ (0 : Int))) rfl rfl rfl rfl) rfl (fun hg => q_fieldAddr (a := a3) (off := 0) rfl Tryz.underlying77 rfl rfl ok75 (by decide) (gvb_yes hg)) ?_
 obtain ⟨x4, hx4, h⟩ := h
 refine ro_gval (g := (decide (n_2 ≥ (0 : Int)))) (d := (some 12)) rfl (.yes 2 7 true (decide (n_2 ≥ (0 : Int))) rfl rfl rfl rfl) rfl (fun hg => q_load (T := tSlc) (u := x4) (a := (a3.add 0)) rfl ok75 (gvb_yes hg) (hx4 hg)) <| ro_gval (g := (decide (n_2 ≥ (0 : Int)))) (d := (some 13)) rfl (.yes 2 7 true (decide (n_2 ≥ (0 : Int))) rfl rfl rfl rfl) rfl (fun hg => q_len (s := x4) rfl Tryz.underlying75 (gvb_yes hg)) <| ro_gval (g := (decide (n_2 ≥ (0 : Int)))) (d := (some 14)) rfl (.yes 2 7 true (decide (n_2 ≥ (0 : Int))) rfl rfl rfl rfl) rfl (fun hg => q_lss (k := .i64) (a := n_2) (b := (x4.len : Int)) rfl (gvb_yes hg) (gvb_yes hg)) <| rv 15 rfl rfl rfl (q_pickGT (a := (decide (n_2 ≥ (0 : Int)))) (b := (decide (n_2 < (x4.len : Int)))) rfl rfl rfl rfl) <| za 4 (.bool (((decide (n_2 ≥ (0 : Int))) && (decide (n_2 < (x4.len : Int)))))) rfl rfl <| ro_nil <| wp_ret ?_
 exact zr1 h rfl rfl
def F108 (b_1 : Slc) (w : World) (R : (Slc × Int × Int) → World → Prop) : Prop :=
 if (decide ((b_1.len : Int) < (8 : Int))) = true then (
  R ((⟨none, 0, 0⟩ : Slc), (0 : Int), (31 : Int)) w
 ) else (
  cl Tryz.prog 131 [tSlc.enc (b_1)] (tInt .u32) w fun r3 w2 =>
  if (decide ((IntKind.i64.wrap r3) > (65536 : Int))) = true then (
   R ((⟨none, 0, 0⟩ : Slc), (0 : Int), (30 : Int)) w2
  ) else (
   if (decide ((IntKind.i64.wrap r3) > (IntKind.i64.wrap ((b_1.len : Int) - (8 : Int))))) = true then (
    R ((⟨none, 0, 0⟩ : Slc), (0 : Int), (31 : Int)) w2
   ) else (
    dr w2 fun w4 =>
    ex (Sub b_1 1 0 (4 : Int) ((b_1).cap : Int)) fun s5 =>
    ex (Sub b_1 1 (8 : Int) (IntKind.i64.wrap ((8 : Int) + (IntKind.i64.wrap r3))) ((b_1).cap : Int)) fun s6 =>
    ex (Sub b_1 1 (4 : Int) ((b_1).len : Int) ((b_1).cap : Int)) fun s7 =>
    cl Tryz.prog 114 [tSlc.enc (s5), tSlc.enc (s6)] (tInt .u32) w4 fun r9 w8 =>
    cl Tryz.prog 131 [tSlc.enc (s7)] (tInt .u32) w8 fun r11 w10 =>
    if (r9 != r11) = true then (
     R ((⟨none, 0, 0⟩ : Slc), (0 : Int), (32 : Int)) w10
    ) else (
     nwS 5 (tInt .u8) ([] : List Int) w10 fun a12 w13 =>
     ex (Sub b_1 1 (8 : Int) (IntKind.i64.wrap ((8 : Int) + (IntKind.i64.wrap r3))) ((b_1).cap : Int)) fun s14 =>
     apd 5 (tInt .u8) 1 1 (⟨some a12, 0, 0⟩ : Slc) s14 w13 fun r16 w15 =>
     ex (Sub r16 1 0 (IntKind.i64.wrap r3) (IntKind.i64.wrap r3)) fun s17 =>
     R (s17, (IntKind.i64.wrap ((8 : Int) + (IntKind.i64.wrap r3))), (0 : Int)) w15
    )
   )
  )
 )
theorem F108_ok {b_1 : Slc} {w : World} {R : (Slc × Int × Int) → World → Prop} (h : F108 b_1 w R) : cl Tryz.prog 108 [tSlc.enc (b_1)] (tTup3 tSlc (tInt .i64) (tInt .i64)) w R := by
 unfold F108 at h
 refine calls_start 46 Tryz.func108 rfl rfl (Nat.le_of_ble_eq_true rfl) <| wp_seq <| wp_text [0, 1, 2] rfl <| za 2 (tSlc.enc ((⟨none, 0, 0⟩ : Slc))) rfl rfl <| za 3 (.int .i64 ((0 : Int))) rfl rfl <| za 4 (.int .i64 ((0 : Int))) rfl rfl <| ro_nil <| wp_seq <| wp_seq <| wp_text [0, 1, 2] rfl <| zm 7 (tSlc.enc (b_1)) rfl rfl <| rv 8 rfl rfl rfl (q_len (s := b_1) rfl Tryz.underlying25 rfl) ?_
 refine rv 9 rfl rfl rfl (q_lss (a := (b_1.len : Int)) (b := (8 : Int)) rfl rfl rfl) <| ro_nil <| zi h rfl (fun _ h => ?_) fun _ h => ?_
 ·refine wp_seq <| wp_text [0, 1, 2] rfl <| za 2 (tSlc.enc ((⟨none, 0, 0⟩ : Slc))) rfl rfl <| za 3 (.int .i64 ((0 : Int))) rfl rfl <| za 4 (.int .i64 ((31 : Int))) rfl rfl <| ro_nil <| wp_ret ?_
  exact zr3 h rfl rfl
 ·refine wp_skip <| wp_seq <| wp_text [0, 1, 2, 3] rfl <| zm 10 (tSlc.enc (b_1)) rfl rfl <| zc ent131 rfl rfl h fun r3 w2 h => rv 12 rfl rfl rfl (q_cvtI (a := r3) rfl Tryz.underlying189 Tryz.underlying3 rfl) <| za 5 (.int .i64 ((IntKind.i64.wrap r3))) rfl rfl <| ro_nil <| wp_seq <| wp_block <| wp_seq <| wp_text [0, 1, 2] rfl ?_
  refine zm 14 (.int .i64 ((IntKind.i64.wrap r3))) rfl rfl <| rv 15 rfl rfl rfl (q_gtr (a := (IntKind.i64.wrap r3)) (b := (65536 : Int)) rfl rfl rfl) <| za 13 (.bool ((decide ((IntKind.i64.wrap r3) > (65536 : Int))))) rfl rfl <| ro_nil <| zi h rfl (fun _ h => ?_) fun _ h => ?_
  ·refine wp_seq <| wp_text [0, 1, 2] rfl <| za 2 (tSlc.enc ((⟨none, 0, 0⟩ : Slc))) rfl rfl <| za 3 (.int .i64 ((0 : Int))) rfl rfl <| za 4 (.int .i64 ((30 : Int))) rfl rfl <| ro_nil <| wp_ret ?_
   exact zr3 h rfl rfl
  ·refine wp_seq <| wp_text [0, 1, 2, 3, 4, 5] rfl <| zm 17 (.int .i64 ((IntKind.i64.wrap r3))) rfl rfl <| zm 18 (tSlc.enc (b_1)) rfl rfl <| rv 19 rfl rfl rfl (q_len (s := b_1) rfl Tryz.underlying25 rfl) <| rv 20 rfl rfl rfl (q_sub (a := (b_1.len : Int)) (b := (8 : Int)) rfl rfl rfl) <| rv 21 rfl rfl rfl (q_gtr (a := (IntKind.i64.wrap r3)) (b := (IntKind.i64.wrap ((b_1.len : Int) - (8 : Int)))) rfl rfl rfl) <| za 16 (.bool ((decide ((IntKind.i64.wrap r3) > (IntKind.i64.wrap ((b_1.len : Int) - (8 : Int))))))) rfl rfl <| ro_nil <| zi h rfl (fun _ h => ?_) fun _ h => ?_
   ·refine wp_seq <| wp_text [0, 1, 2] rfl <| za 2 (tSlc.enc ((⟨none, 0, 0⟩ : Slc))) rfl rfl <| za 3 (.int .i64 ((0 : Int))) rfl rfl <| za 4 (.int .i64 ((31 : Int))) rfl rfl <| ro_nil <| wp_ret ?_
    exact zr3 h rfl rfl
   ·refine wp_seq ?_
    obtain ⟨w4, hw4, h⟩ := dr_open h
    refine wp_drawn 12 mixed rfl (by kernel_rfl) (by intro c a d v w h; cases d <;> exact h) hw4 (fun hD => ?_)
    refine ym 0 23 (tSlc.enc (b_1)) hD rfl rfl ?_
    obtain ⟨s5, hs5, h⟩ := h
    refine rp 1 24 hD rfl rfl rfl (fun _ => q_sliceH (s := b_1) (h := (4 : Int)) rfl Tryz.underlying25 ok5 rfl rfl hs5) <| ym 2 25 (tSlc.enc (b_1)) hD rfl rfl <| ym 3 26 (.int .i64 ((IntKind.i64.wrap r3))) hD rfl rfl <| rp 4 27 hD rfl rfl rfl (fun _ => q_add (a := (8 : Int)) (b := (IntKind.i64.wrap r3)) rfl rfl rfl) ?_
    obtain ⟨s6, hs6, h⟩ := h
    refine rp 5 28 hD rfl rfl rfl (fun _ => q_sliceLH (s := b_1) (l := (8 : Int)) (h := (IntKind.i64.wrap ((8 : Int) + (IntKind.i64.wrap r3)))) rfl Tryz.underlying25 ok5 rfl rfl rfl hs6) <| ym 7 30 (tSlc.enc (b_1)) hD rfl rfl ?_
    obtain ⟨s7, hs7, h⟩ := h
    refine rp 8 31 hD rfl rfl rfl (fun _ => q_sliceL (s := b_1) (l := (4 : Int)) rfl Tryz.underlying25 ok5 rfl rfl hs7) <| rd_one (i := 6) (by kernel_rfl) <| po_wp rfl (.free rfl) (wp_cl (d := (some 29)) rfl (q_call (k := 114) (l := [tSlc.enc (s5), tSlc.enc (s6)]) rfl ent114 rfl) h ?_)
    intro r9 w8 h
    refine ⟨hk_nil, ?_⟩
    refine rd_one (i := 9) (by kernel_rfl) <| po_wp rfl (.free rfl) (wp_cl (d := (some 32)) rfl (q_call (k := 131) (l := [tSlc.enc (s7)]) rfl ent131 rfl) h ?_)
    intro r11 w10 h
    refine ⟨hk_nil, ?_⟩
    refine rp 10 33 hD rfl rfl rfl (fun _ => q_neq (a := r9) (b := r11) rfl rfl rfl) <| ya 11 22 (.bool ((r9 != r11))) hD rfl rfl <| rd_nil (by kernel_rfl) <| zi h rfl (fun _ h => ?_) fun _ h => ?_
    ·refine wp_seq <| wp_text [0, 1, 2] rfl <| za 2 (tSlc.enc ((⟨none, 0, 0⟩ : Slc))) rfl rfl <| za 3 (.int .i64 ((0 : Int))) rfl rfl <| za 4 (.int .i64 ((32 : Int))) rfl rfl <| ro_nil <| wp_ret ?_
     exact zr3 h rfl rfl
    ·refine wp_skip <| wp_seq <| wp_text [0, 1, 2, 3, 4, 5, 6] rfl ?_
     obtain ⟨a12, w13, ha12, hw13, h⟩ := nwS_open h
     refine rv 34 rfl rfl rfl (q_row0 (T := (tInt .u8)) rfl Tryz.underlying25 ok5 inf5 ha12 hw13) <| zm 35 (tSlc.enc (b_1)) rfl rfl <| zm 36 (.int .i64 ((IntKind.i64.wrap r3))) rfl rfl <| rv 37 rfl rfl rfl (q_add (a := (8 : Int)) (b := (IntKind.i64.wrap r3)) rfl rfl rfl) ?_
     obtain ⟨s14, hs14, h⟩ := h
     refine rv 38 rfl rfl rfl (q_sliceLH (s := b_1) (l := (8 : Int)) (h := (IntKind.i64.wrap ((8 : Int) + (IntKind.i64.wrap r3)))) rfl Tryz.underlying25 ok5 rfl rfl rfl hs14) <| ro_wp rfl (.free rfl) (wp_append (d := (some 39)) (T := (tInt .u8)) rfl rfl Tryz.underlying25 ⟨_, Tryz.underlying25⟩ ok5 inf5 rfl rfl (Nat.lt_of_lt_of_le Nat.zero_lt_one (Nat.le_of_ble_eq_true rfl)) rfl rfl h ?_)
     intro r16 w15 h
     refine za 6 (tSlc.enc (r16)) rfl rfl <| ro_nil <| wp_seq <| wp_text [0, 1, 2, 3, 4, 5, 6, 7, 8] rfl <| zm 40 (tSlc.enc (r16)) rfl rfl <| zm 41 (.int .i64 ((IntKind.i64.wrap r3))) rfl rfl <| zm 42 (.int .i64 ((IntKind.i64.wrap r3))) rfl rfl ?_
     obtain ⟨s17, hs17, h⟩ := h
     refine rv 43 rfl rfl rfl (q_sliceHM (s := r16) (h := (IntKind.i64.wrap r3)) (m := (IntKind.i64.wrap r3)) rfl Tryz.underlying25 ok5 rfl rfl rfl hs17) <| zm 44 (.int .i64 ((IntKind.i64.wrap r3))) rfl rfl <| rv 45 rfl rfl rfl (q_add (a := (8 : Int)) (b := (IntKind.i64.wrap r3)) rfl rfl rfl) <| za 2 (tSlc.enc (s17)) rfl rfl <| za 3 (.int .i64 ((IntKind.i64.wrap ((8 : Int) + (IntKind.i64.wrap r3))))) rfl rfl <| za 4 (.int .i64 ((0 : Int))) rfl rfl <| ro_nil <| wp_ret ?_
     exact zr3 h rfl rfl
def F109 (l_1 : (Option Addr)) (t_2 : Addr) (w : World) (R : Unit → World → Prop) : Prop :=
 ex (RdAt tSlc t_2 w) fun x3 =>
 mkS 5 (tInt .u8) 1 (0 : Int) (x3.len : Int) (x3.len : Int) w fun r5 w4 =>
 ex (NC l_1) fun a6 =>
 st tSlc (a6.add 0) r5 w4 fun w7 =>
 dr w7 fun w8 =>
 ex (RdAt tSlc (a6.add 0) w8) fun x9 =>
 ex (RdAt tSlc t_2 w8) fun x10 =>
 cpy (tInt .u8) 1 x9 x10 w8 fun r12 w11 =>
 st (tInt .i64) (a6.add 1) (r12 : Int) w11 fun w13 =>
 R () w13
theorem F109_ok {l_1 : (Option Addr)} {t_2 : Addr} {w : World} {R : Unit → World → Prop} (h : F109 l_1 t_2 w R) : cl Tryz.prog 109 [.pointer (l_1), .pointer (some t_2)] tUnit w R := by
 unfold F109 at h
 refine calls_start 18 Tryz.func109 rfl rfl (Nat.le_of_ble_eq_true rfl) <| wp_seq <| wp_text [0, 1, 2, 3, 4, 5, 6] rfl <| zm 3 (.pointer (l_1)) rfl rfl ?_
 obtain ⟨x3, hx3, h⟩ := h
 refine zl 4 hx3 ok25 rfl rfl <| rv 5 rfl rfl rfl (q_len (s := x3) rfl Tryz.underlying25 rfl) <| ro_wp rfl (.free rfl) (wp_mkS (T := (tInt .u8)) (z := (0 : Int)) (l := (x3.len : Int)) (c := (x3.len : Int)) (d := (some 6)) rfl rfl Tryz.underlying25 ok5 inf5 rfl rfl h ?_)
 intro r5 w4 h
 obtain ⟨a6, ha6, h⟩ := h
 refine zn 7 ha6 rfl rfl <| zf 8 a6 0 Tryz.underlying93 ok25 rfl rfl rfl ?_
 obtain ⟨w7, hw7, hrw7, h⟩ := st_open h
 refine ro_skip (d := none) rfl (.free rfl) rfl (q_store (T := tSlc) (u := r5) (a := (a6.add 0)) rfl ok25 rfl rfl hrw7 hw7) <| ro_nil ?_
 obtain ⟨w8, hw8, h⟩ := dr_open h
 refine wp_drawn 10 mixed rfl (by kernel_rfl) (by intro c a d v w h; cases d <;> exact h) hw8 (fun hD => ?_)
 refine ym 0 9 (.pointer (l_1)) hD rfl rfl <| ym 1 10 (.pointer (l_1)) hD rfl rfl <| yn 2 11 ha6 hD rfl rfl <| yf 3 12 a6 0 Tryz.underlying93 ok25 hD rfl rfl rfl ?_
 obtain ⟨x9, hx9, h⟩ := h
 refine yr 4 13 hx9 ok25 hD rfl rfl ?_
 obtain ⟨x10, hx10, h⟩ := h
 refine yr 5 14 hx10 ok25 hD rfl rfl <| rd_one (i := 6) (by kernel_rfl) <| po_wp rfl (.free rfl) (wp_cpy (T := (tInt .u8)) (s := x9) (b := x10) (d := (some 15)) rfl rfl Tryz.underlying25 ok5 rfl rfl h ?_)
 intro r12 w11 h
 refine ⟨(hk_wait (by kernel_rfl) (hk_wait (by kernel_rfl) hk_nil)), ?_⟩
 refine yn 7 16 ha6 hD rfl rfl <| yf 8 17 a6 1 Tryz.underlying93 ok3 hD rfl rfl rfl <| rd_one (i := 9) (by kernel_rfl) ?_
 obtain ⟨w13, hw13, hrw13, h⟩ := st_open h
 refine po_skip (d := none) rfl (.free rfl) rfl (q_store (T := (tInt .i64)) (u := (r12 : Int)) (a := (a6.add 1)) rfl ok3 rfl rfl hrw13 hw13) ⟨(hk_wait (by kernel_rfl) (hk_wait (by kernel_rfl) hk_nil)), ?_⟩
 refine rd_nil (by kernel_rfl) ?_
 exact end_ok rfl .nil ⟨(), rfl, h⟩
def F110 (t_1 : Int) (id_2 : Int) (t_3 : Addr) (w : World) (R : Int → World → Prop) : Prop :=
 ex (RdAt tFun t_3 w) fun x4 =>
 clw Tryz.prog x4 [.int .i64 (id_2)] (tInt .i64) w fun r6 w5 =>
 R r6 w5
theorem F110_ok {t_1 : Int} {id_2 : Int} {t_3 : Addr} {w : World} {R : Int → World → Prop} (h : F110 t_1 id_2 t_3 w R) : cl Tryz.prog 110 [.int .i64 (t_1), .int .i64 (id_2), .pointer (some t_3)] (tInt .i64) w R := by
 unfold F110 at h
 refine calls_start 9 Tryz.func110 rfl rfl (Nat.le_of_ble_eq_true rfl) <| wp_seq <| wp_text [0] rfl <| za 5 (.int .i64 ((0 : Int))) rfl rfl <| ro_nil <| wp_seq <| wp_text [0, 1, 2, 3] rfl ?_
 obtain ⟨x4, hx4, h⟩ := h
 refine zl 6 hx4 ok90 rfl rfl <| zm 7 (.int .i64 (id_2)) rfl rfl <| ro_wp rfl (.free rfl) (wp_clw (d := (some 8)) (l := [.int .i64 (id_2)]) (fv := x4) rfl rfl rfl rfl h ?_)
 intro r6 w5 h
 refine za 5 (.int .i64 (r6)) rfl rfl <| ro_nil <| wp_ret ?_
 exact zr1 h rfl rfl
def F111 (t_1 : Int) (t_2 : Int) (t_3 : Addr) (w : World) (R : Int → World → Prop) : Prop :=
 ex (RdAt tFun t_3 w) fun x4 =>
 clw Tryz.prog x4 [.int .i64 (t_1)] (tInt .i64) w fun r6 w5 =>
 R r6 w5
theorem F111_ok {t_1 : Int} {t_2 : Int} {t_3 : Addr} {w : World} {R : Int → World → Prop} (h : F111 t_1 t_2 t_3 w R) : cl Tryz.prog 111 [.int .i64 (t_1), .int .i64 (t_2), .pointer (some t_3)] (tInt .i64) w R := by
 unfold F111 at h
 refine calls_start 9 Tryz.func111 rfl rfl (Nat.le_of_ble_eq_true rfl) <| wp_seq <| wp_text [0] rfl <| za 5 (.int .i64 ((0 : Int))) rfl rfl <| ro_nil <| wp_seq <| wp_text [0, 1, 2, 3] rfl ?_
 obtain ⟨x4, hx4, h⟩ := h
 refine zl 6 hx4 ok116 rfl rfl <| zm 7 (.int .i64 (t_1)) rfl rfl <| ro_wp rfl (.free rfl) (wp_clw (d := (some 8)) (l := [.int .i64 (t_1)]) (fv := x4) rfl rfl rfl rfl h ?_)
 intro r6 w5 h
 refine za 5 (.int .i64 (r6)) rfl rfl <| ro_nil <| wp_ret ?_
 exact zr1 h rfl rfl
def F112 (t_1 : Int) (t_2 : Int) (t_3 : Addr) (w : World) (R : Int → World → Prop) : Prop :=
 ex (RdAt tFun t_3 w) fun x4 =>
 clw Tryz.prog x4 [.int .i64 (t_1)] (tInt .i64) w fun r6 w5 =>
 R r6 w5
theorem F112_ok {t_1 : Int} {t_2 : Int} {t_3 : Addr} {w : World} {R : Int → World → Prop} (h : F112 t_1 t_2 t_3 w R) : cl Tryz.prog 112 [.int .i64 (t_1), .int .i64 (t_2), .pointer (some t_3)] (tInt .i64) w R := by
 unfold F112 at h
 refine calls_start 9 Tryz.func112 rfl rfl (Nat.le_of_ble_eq_true rfl) <| wp_seq <| wp_text [0] rfl <| za 5 (.int .i64 ((0 : Int))) rfl rfl <| ro_nil <| wp_seq <| wp_text [0, 1, 2, 3] rfl ?_
 obtain ⟨x4, hx4, h⟩ := h
 refine zl 6 hx4 ok116 rfl rfl <| zm 7 (.int .i64 (t_1)) rfl rfl <| ro_wp rfl (.free rfl) (wp_clw (d := (some 8)) (l := [.int .i64 (t_1)]) (fv := x4) rfl rfl rfl rfl h ?_)
 intro r6 w5 h
 refine za 5 (.int .i64 (r6)) rfl rfl <| ro_nil <| wp_ret ?_
 exact zr1 h rfl rfl
def F113 (b_1 : Slc) (n_2 : Int) (w : World) (R : Slc → World → Prop) : Prop :=
 ex (Shift (24 : Int) (Int.fdiv n_2 (2 ^ (min ((24 : Int)).toNat IntKind.u32.bits)))) fun d3 =>
 ex (Shift (16 : Int) (Int.fdiv n_2 (2 ^ (min ((16 : Int)).toNat IntKind.u32.bits)))) fun d4 =>
 ex (Shift (8 : Int) (Int.fdiv n_2 (2 ^ (min ((8 : Int)).toNat IntKind.u32.bits)))) fun d5 =>
 apl 5 (tInt .u8) 1 1 b_1 [(IntKind.u8.wrap d3), (IntKind.u8.wrap d4), (IntKind.u8.wrap d5), (IntKind.u8.wrap n_2)] w fun r9 w8 =>
 R r9 w8
theorem F113_ok {b_1 : Slc} {n_2 : Int} {w : World} {R : Slc → World → Prop} (h : F113 b_1 n_2 w R) : cl Tryz.prog 113 [tSlc.enc (b_1), .int .u32 (n_2)] tSlc w R := by
 unfold F113 at h
 refine calls_start 19 Tryz.func113 rfl rfl (Nat.le_of_ble_eq_true rfl) <| wp_seq <| wp_text [0] rfl <| za 4 (tSlc.enc ((⟨none, 0, 0⟩ : Slc))) rfl rfl <| ro_nil <| wp_seq <| wp_text [0, 1, 2, 3, 4, 5, 6, 7, 8, 9, 10, 11, 12, 13, 14] rfl <| zm 5 (tSlc.enc (b_1)) rfl rfl <| zm 6 (.int .u32 (n_2)) rfl rfl ?_
 obtain ⟨d3, hd3, h⟩ := h
 refine rv 7 rfl rfl rfl (q_shr (a := n_2) (b := (24 : Int)) (r := d3) rfl rfl rfl hd3) <| rv 8 rfl rfl rfl (q_cvtI (a := d3) rfl Tryz.underlying189 Tryz.underlying5 rfl) <| zm 9 (.int .u32 (n_2)) rfl rfl ?_
 obtain ⟨d4, hd4, h⟩ := h
 refine rv 10 rfl rfl rfl (q_shr (a := n_2) (b := (16 : Int)) (r := d4) rfl rfl rfl hd4) <| rv 11 rfl rfl rfl (q_cvtI (a := d4) rfl Tryz.underlying189 Tryz.underlying5 rfl) <| zm 12 (.int .u32 (n_2)) rfl rfl ?_
 obtain ⟨d5, hd5, h⟩ := h
 refine rv 13 rfl rfl rfl (q_shr (a := n_2) (b := (8 : Int)) (r := d5) rfl rfl rfl hd5) <| rv 14 rfl rfl rfl (q_cvtI (a := d5) rfl Tryz.underlying189 Tryz.underlying5 rfl) <| zm 15 (.int .u32 (n_2)) rfl rfl <| rv 16 rfl rfl rfl (q_cvtI (a := n_2) rfl Tryz.underlying189 Tryz.underlying5 rfl) ?_
 obtain ⟨a6, w7, ha6, hw7, h⟩ := apl_open h
 refine rv 17 rfl rfl rfl (q_rowOf (T := (tInt .u8)) (xs := [(IntKind.u8.wrap d3), (IntKind.u8.wrap d4), (IntKind.u8.wrap d5), (IntKind.u8.wrap n_2)]) rfl Tryz.underlying25 ok5 inf5 rfl (by decide) (by decide) rfl ha6 hw7) <| ro_wp rfl (.free rfl) (wp_append (d := (some 18)) (T := (tInt .u8)) rfl rfl Tryz.underlying25 ⟨_, Tryz.underlying25⟩ ok5 inf5 rfl rfl (Nat.lt_of_lt_of_le Nat.zero_lt_one (Nat.le_of_ble_eq_true rfl)) rfl rfl h ?_)
 intro r9 w8 h
 refine za 4 (tSlc.enc (r9)) rfl rfl <| ro_nil <| wp_ret ?_
 exact zr1 h rfl rfl
def F114 (length_1 : Slc) (load_2 : Slc) (w : World) (R : Int → World → Prop) : Prop :=
 cl Tryz.prog 132 [.int .u32 ((4294967295 : Int)), tSlc.enc (length_1)] (tInt .u32) w fun r4 w3 =>
 cl Tryz.prog 132 [.int .u32 (r4), tSlc.enc (load_2)] (tInt .u32) w3 fun r6 w5 =>
 R (bits .xor .u32 IntKind.u32.max r6) w5
theorem F114_ok {length_1 : Slc} {load_2 : Slc} {w : World} {R : Int → World → Prop} (h : F114 length_1 load_2 w R) : cl Tryz.prog 114 [tSlc.enc (length_1), tSlc.enc (load_2)] (tInt .u32) w R := by
 unfold F114 at h
 refine calls_start 10 Tryz.func114 rfl rfl (Nat.le_of_ble_eq_true rfl) <| wp_seq <| wp_text [0] rfl <| za 4 (.int .u32 ((0 : Int))) rfl rfl <| ro_nil <| wp_seq <| wp_text [0, 1, 2, 3, 4, 5] rfl <| zm 5 (tSlc.enc (length_1)) rfl rfl <| zc ent132 rfl rfl h fun r4 w3 h => zm 7 (tSlc.enc (load_2)) rfl rfl <| zc ent132 rfl rfl h fun r6 w5 h => rv 9 rfl rfl rfl (q_notU (a := r6) rfl rfl rfl) ?_
 refine za 4 (.int .u32 ((bits .xor .u32 IntKind.u32.max r6))) rfl rfl <| ro_nil <| wp_ret ?_
 exact zr1 h rfl rfl
end Go.Proofs.YtehclfjjjiiieaaGreat.Cf
namespace Go.Proofs.YtehclfjjjiiieaaGreat.Cf
open Go
set_option maxRecDepth 100000
set_option maxHeartbeats 1000000
set_option linter.unusedVariables false
set_option linter.unusedSimpArgs false
def F115 (l_1 : (Option Addr)) (t_2 : Addr) (w : World) (R : Unit → World → Prop) : Prop :=
 dr w fun w3 =>
 ex (NC l_1) fun a4 =>
 ex (RdAt tSlc (a4.add 0) w3) fun x5 =>
 ex (RdAt tSlc t_2 w3) fun x6 =>
 apd 5 (tInt .u8) 1 1 x5 x6 w3 fun r8 w7 =>
 st tSlc (a4.add 0) r8 w7 fun w9 =>
 R () w9
theorem F115_ok {l_1 : (Option Addr)} {t_2 : Addr} {w : World} {R : Unit → World → Prop} (h : F115 l_1 t_2 w R) : cl Tryz.prog 115 [.pointer (l_1), .pointer (some t_2)] tUnit w R := by
 unfold F115 at h
 refine calls_start 12 Tryz.func115 rfl rfl (Nat.le_of_ble_eq_true rfl) ?_
 obtain ⟨w3, hw3, h⟩ := dr_open h
 refine wp_drawn 10 mixed rfl (by kernel_rfl) (by intro c a d v w h; cases d <;> exact h) hw3 (fun hD => ?_)
 refine ym 0 3 (.pointer (l_1)) hD rfl rfl <| ym 1 4 (.pointer (l_1)) hD rfl rfl ?_
 obtain ⟨a4, ha4, h⟩ := h
 refine yn 2 5 ha4 hD rfl rfl <| yf 3 6 a4 0 Tryz.underlying93 ok25 hD rfl rfl rfl ?_
 obtain ⟨x5, hx5, h⟩ := h
 refine yr 4 7 hx5 ok25 hD rfl rfl ?_
 obtain ⟨x6, hx6, h⟩ := h
 refine yr 5 8 hx6 ok25 hD rfl rfl <| rd_one (i := 6) (by kernel_rfl) <| po_wp rfl (.free rfl) (wp_append (d := (some 9)) (T := (tInt .u8)) rfl rfl Tryz.underlying25 ⟨_, Tryz.underlying25⟩ ok5 inf5 rfl rfl (Nat.lt_of_lt_of_le Nat.zero_lt_one (Nat.le_of_ble_eq_true rfl)) rfl rfl h ?_)
 intro r8 w7 h
 refine ⟨(hk_wait (by kernel_rfl) (hk_wait (by kernel_rfl) hk_nil)), ?_⟩
 refine yn 7 10 ha4 hD rfl rfl <| yf 8 11 a4 0 Tryz.underlying93 ok25 hD rfl rfl rfl <| rd_one (i := 9) (by kernel_rfl) ?_
 obtain ⟨w9, hw9, hrw9, h⟩ := st_open h
 refine po_skip (d := none) rfl (.free rfl) rfl (q_store (T := tSlc) (u := r8) (a := (a4.add 0)) rfl ok25 rfl rfl hrw9 hw9) ⟨(hk_wait (by kernel_rfl) (hk_wait (by kernel_rfl) hk_nil)), ?_⟩
 refine rd_nil (by kernel_rfl) ?_
 exact end_ok rfl .nil ⟨(), rfl, h⟩
def F119 (s_1 : (Option Addr)) (at_2 : Int) (w : World) (R : Int → World → Prop) : Prop :=
 cl Tryz.prog 124 [.int .i64 (at_2)] tBool w fun r4 w3 =>
 if (!r4) = true then (
  R (120 : Int) w3
 ) else (
  ex (NC s_1) fun a5 =>
  ex (RdAt (tInt .i64) (a5.add 1) w3) fun x6 =>
  if (decide (at_2 > x6)) = true then (
   R (128 : Int) w3
  ) else (
   ex (RdAt (tInt .i64) (a5.add 2) w3) fun x7 =>
   if (decide (at_2 < x7)) = true then (
    R (126 : Int) w3
   ) else (
    R (0 : Int) w3
   )
  )
 )
theorem F119_ok {s_1 : (Option Addr)} {at_2 : Int} {w : World} {R : Int → World → Prop} (h : F119 s_1 at_2 w R) : cl Tryz.prog 119 [.pointer (s_1), .int .i64 (at_2)] (tInt .i64) w R := by
 unfold F119 at h
 refine calls_start 23 Tryz.func119 rfl rfl (Nat.le_of_ble_eq_true rfl) <| wp_seq <| wp_text [0] rfl <| za 4 (.int .i64 ((0 : Int))) rfl rfl <| ro_nil <| wp_seq <| wp_block <| wp_seq <| wp_text [0, 1, 2, 3] rfl <| zm 6 (.int .i64 (at_2)) rfl rfl <| zc ent124 rfl rfl h fun r4 w3 h => rv 8 rfl rfl rfl (q_not (b := r4) rfl rfl) ?_
 refine za 5 (.bool ((!r4))) rfl rfl <| ro_nil <| zi h rfl (fun _ h => ?_) fun _ h => ?_
 ·refine wp_seq <| wp_text [0] rfl <| za 4 (.int .i64 ((120 : Int))) rfl rfl <| ro_nil <| wp_ret ?_
  exact zr1 h rfl rfl
 ·refine wp_seq <| wp_text [0, 1, 2, 3, 4, 5, 6] rfl <| zm 10 (.int .i64 (at_2)) rfl rfl <| zm 11 (.pointer (s_1)) rfl rfl ?_
  obtain ⟨a5, ha5, h⟩ := h
  refine zn 12 ha5 rfl rfl <| zf 13 a5 1 Tryz.underlying169 ok2 rfl rfl rfl ?_
  obtain ⟨x6, hx6, h⟩ := h
  refine zl 14 hx6 ok2 rfl rfl <| rv 15 rfl rfl rfl (q_gtr (a := at_2) (b := x6) rfl rfl rfl) <| za 9 (.bool ((decide (at_2 > x6)))) rfl rfl <| ro_nil <| zi h rfl (fun _ h => ?_) fun _ h => ?_
  ·refine wp_seq <| wp_text [0] rfl <| za 4 (.int .i64 ((128 : Int))) rfl rfl <| ro_nil <| wp_ret ?_
   exact zr1 h rfl rfl
  ·refine wp_seq <| wp_text [0, 1, 2, 3, 4, 5, 6] rfl <| zm 17 (.int .i64 (at_2)) rfl rfl <| zm 18 (.pointer (s_1)) rfl rfl <| zn 19 ha5 rfl rfl <| zf 20 a5 2 Tryz.underlying169 ok2 rfl rfl rfl ?_
   obtain ⟨x7, hx7, h⟩ := h
   refine zl 21 hx7 ok2 rfl rfl <| rv 22 rfl rfl rfl (q_lss (a := at_2) (b := x7) rfl rfl rfl) <| za 16 (.bool ((decide (at_2 < x7)))) rfl rfl <| ro_nil <| zi h rfl (fun _ h => ?_) fun _ h => ?_
   ·refine wp_seq <| wp_text [0] rfl <| za 4 (.int .i64 ((126 : Int))) rfl rfl <| ro_nil <| wp_ret ?_
    exact zr1 h rfl rfl
   ·refine wp_skip <| wp_seq <| wp_text [0] rfl <| za 4 (.int .i64 ((0 : Int))) rfl rfl <| ro_nil <| wp_ret ?_
    exact zr1 h rfl rfl
def F120 (m_1 : (Option Nat)) (w : World) (R : Fv → World → Prop) : Prop :=
 nw 167 tMap m_1 w fun a2 w3 =>
 R (Fv.mk (.func 136) (List.toArray []) (List.toArray [.pointer (some a2)])) w3
theorem F120_ok {m_1 : (Option Nat)} {w : World} {R : Fv → World → Prop} (h : F120 m_1 w R) : cl Tryz.prog 120 [.map (m_1)] tFun w R := by
 unfold F120 at h
 refine calls_start 4 Tryz.func120 rfl rfl (Nat.le_of_ble_eq_true rfl) <| wp_seq <| wp_text [0, 1] rfl ?_
 obtain ⟨a2, w3, ha2, hw3, h⟩ := nw_open h
 refine rv 1 rfl rfl rfl (q_box (u := m_1) rfl ok167 rfl ha2 hw3) <| za 2 ((Fv.nil).enc) rfl rfl <| ro_nil <| wp_seq <| wp_text [0, 1] rfl <| rv 3 rfl rfl rfl (q_makeFunc (fn := .func 136) (va := []) (vc := [.pointer (some a2)]) rfl rfl rfl) <| za 2 (((Fv.mk (.func 136) (List.toArray []) (List.toArray [.pointer (some a2)]))).enc) rfl rfl <| ro_nil <| wp_ret ?_
 exact zr1 h rfl rfl
def F121 (c_1 : (Option Addr)) (at_2 : Int) (w : World) (R : (S117 × Int) → World → Prop) : Prop :=
 nw 118 T117 Z117 w fun a3 w4 =>
 if ((decide (at_2 < (0 : Int))) || (decide (at_2 > (1125899906842624 : Int)))) = true then (
  st T117 a3 (⟨(0 : Int), (0 : Int)⟩ : S117) w4 fun w5 =>
  ex (RdAt T117 a3 w5) fun x6 =>
  R (x6, (110 : Int)) w5
 ) else (
  ex (NC c_1) fun a7 =>
  ex (RdAt (tInt .i64) (a7.add 1) w4) fun x8 =>
  if (decide (at_2 < x8)) = true then (
   st T117 a3 (⟨(0 : Int), (0 : Int)⟩ : S117) w4 fun w9 =>
   ex (RdAt T117 a3 w9) fun x10 =>
   R (x10, (113 : Int)) w9
  ) else (
   cl Tryz.prog 137 [.pointer (c_1), .int .i64 (at_2)] (tInt .i64) w4 fun r12 w11 =>
   if (r12 == (0 : Int)) = true then (
    st T117 a3 (⟨(0 : Int), (0 : Int)⟩ : S117) w11 fun w13 =>
    ex (RdAt T117 a3 w13) fun x14 =>
    R (x14, (114 : Int)) w13
   ) else (
    ex (RdAt tSlc (a7.add 0) w11) fun x15 =>
    ex (IxA x15 2 (IntKind.i64.wrap (r12 - (1 : Int)))) fun a16 =>
    ex (RdAt T117 a16 w11) fun x17 =>
    st T117 a3 x17 w11 fun w18 =>
    ex (RdAt T117 a3 w18) fun x19 =>
    R (x19, (0 : Int)) w18
   )
  )
 )
theorem F121_ok {c_1 : (Option Addr)} {at_2 : Int} {w : World} {R : (S117 × Int) → World → Prop} (h : F121 c_1 at_2 w R) : cl Tryz.prog 121 [.pointer (c_1), .int .i64 (at_2)] (tTup2 T117 (tInt .i64)) w R := by
 unfold F121 at h
 refine calls_start 37 Tryz.func121 rfl rfl (Nat.le_of_ble_eq_true rfl) <| wp_seq <| wp_text [0, 1] rfl ?_
 obtain ⟨a3, w4, ha3, hw4, h⟩ := nw_open h
 refine rv 4 rfl rfl rfl (q_alloc (u := Z117) rfl ok118 inf118 ha3 hw4) <| za 5 (.int .i64 ((0 : Int))) rfl rfl <| ro_nil <| wp_seq <| wp_block <| wp_seq <| wp_text [0, 1, 2, 3, 4, 5, 6] rfl <| zm 8 (.int .i64 (at_2)) rfl rfl <| rv 9 rfl rfl rfl (q_lss (a := at_2) (b := (0 : Int)) rfl rfl rfl) <| zm 10 (.bool ((decide (at_2 < (0 : Int))))) rfl rfl <| ro_gval (g := (!(decide (at_2 < (0 : Int))))) (d := (some 11)) rfl (.no 2 10 true (decide (at_2 < (0 : Int))) rfl rfl rfl rfl) rfl (fun hg => q_move (v := .int .i64 (at_2)) rfl rfl) <| ro_gval (g := (!(decide (at_2 < (0 : Int))))) (d := (some 12)) rfl (.no 2 10 true (decide (at_2 < (0 : Int))) rfl rfl rfl rfl) rfl (fun hg => q_gtr (k := .i64) (a := at_2) (b := (1125899906842624 : Int)) rfl (gvb_yes hg) rfl) ?_
 refine rv 13 rfl rfl rfl (q_pickGF (a := (decide (at_2 < (0 : Int)))) (c := (decide (at_2 > (1125899906842624 : Int)))) rfl rfl rfl rfl) <| za 7 (.bool (((decide (at_2 < (0 : Int))) || (decide (at_2 > (1125899906842624 : Int)))))) rfl rfl <| ro_nil <| zi h rfl (fun _ h => ?_) fun _ h => ?_
 ·refine wp_seq <| wp_text [0, 1, 2] rfl <| rv 14 rfl rfl rfl (q_build118_  rfl ) ?_
  obtain ⟨w5, hw5, hrw5, h⟩ := st_open h
  refine ro_skip (d := none) rfl (.free rfl) rfl (q_store (T := T117) (u := (⟨(0 : Int), (0 : Int)⟩ : S117)) (a := a3) rfl ok118 rfl rfl hrw5 hw5) <| za 5 (.int .i64 ((110 : Int))) rfl rfl <| ro_nil <| wp_ret ?_
  obtain ⟨x6, hx6, h⟩ := h
  exact ret_ok rfl (.cons (.cell (T := T117) (u := x6) (a := a3) ok118 rfl hx6) (.cons (.tmp (v := .int .i64 ((110 : Int))) rfl) .nil)) ⟨(x6, (110 : Int)), rfl, h⟩
 ·refine wp_seq <| wp_text [0, 1, 2, 3, 4, 5, 6] rfl <| zm 16 (.int .i64 (at_2)) rfl rfl <| zm 17 (.pointer (c_1)) rfl rfl ?_
  obtain ⟨a7, ha7, h⟩ := h
  refine zn 18 ha7 rfl rfl <| zf 19 a7 1 Tryz.underlying199 ok2 rfl rfl rfl ?_
  obtain ⟨x8, hx8, h⟩ := h
  refine zl 20 hx8 ok2 rfl rfl <| rv 21 rfl rfl rfl (q_lss (a := at_2) (b := x8) rfl rfl rfl) <| za 15 (.bool ((decide (at_2 < x8)))) rfl rfl <| ro_nil <| zi h rfl (fun _ h => ?_) fun _ h => ?_
  ·refine wp_seq <| wp_text [0, 1, 2] rfl <| rv 22 rfl rfl rfl (q_build118_  rfl ) ?_
   obtain ⟨w9, hw9, hrw9, h⟩ := st_open h
   refine ro_skip (d := none) rfl (.free rfl) rfl (q_store (T := T117) (u := (⟨(0 : Int), (0 : Int)⟩ : S117)) (a := a3) rfl ok118 rfl rfl hrw9 hw9) <| za 5 (.int .i64 ((113 : Int))) rfl rfl <| ro_nil <| wp_ret ?_
   obtain ⟨x10, hx10, h⟩ := h
   exact ret_ok rfl (.cons (.cell (T := T117) (u := x10) (a := a3) ok118 rfl hx10) (.cons (.tmp (v := .int .i64 ((113 : Int))) rfl) .nil)) ⟨(x10, (113 : Int)), rfl, h⟩
  ·refine wp_skip <| wp_seq <| wp_text [0, 1, 2, 3] rfl <| zm 23 (.pointer (c_1)) rfl rfl <| zm 24 (.int .i64 (at_2)) rfl rfl <| zc ent137 rfl rfl h fun r12 w11 h => za 6 (.int .i64 (r12)) rfl rfl <| ro_nil <| wp_seq <| wp_seq <| wp_text [0, 1] rfl <| zm 26 (.int .i64 (r12)) rfl rfl ?_
   refine rv 27 rfl rfl rfl (q_eql (a := r12) (b := (0 : Int)) rfl rfl rfl) <| ro_nil <| zi h rfl (fun _ h => ?_) fun _ h => ?_
   ·refine wp_seq <| wp_text [0, 1, 2] rfl <| rv 28 rfl rfl rfl (q_build118_  rfl ) ?_
    obtain ⟨w13, hw13, hrw13, h⟩ := st_open h
    refine ro_skip (d := none) rfl (.free rfl) rfl (q_store (T := T117) (u := (⟨(0 : Int), (0 : Int)⟩ : S117)) (a := a3) rfl ok118 rfl rfl hrw13 hw13) <| za 5 (.int .i64 ((114 : Int))) rfl rfl <| ro_nil <| wp_ret ?_
    obtain ⟨x14, hx14, h⟩ := h
    exact ret_ok rfl (.cons (.cell (T := T117) (u := x14) (a := a3) ok118 rfl hx14) (.cons (.tmp (v := .int .i64 ((114 : Int))) rfl) .nil)) ⟨(x14, (114 : Int)), rfl, h⟩
   ·refine wp_skip <| wp_seq <| wp_text [0, 1, 2, 3, 4, 5, 6, 7, 8, 9] rfl <| zm 29 (.pointer (c_1)) rfl rfl <| zn 30 ha7 rfl rfl <| zf 31 a7 0 Tryz.underlying199 ok197 rfl rfl rfl ?_
    obtain ⟨x15, hx15, h⟩ := h
    refine zl 32 hx15 ok197 rfl rfl <| zm 33 (.int .i64 (r12)) rfl rfl <| rv 34 rfl rfl rfl (q_sub (a := r12) (b := (1 : Int)) rfl rfl rfl) ?_
    obtain ⟨a16, ha16, h⟩ := h
    refine rv 35 rfl rfl rfl (q_indexAddr (s := x15) (k := .i64) (i := (IntKind.i64.wrap (r12 - (1 : Int)))) rfl Tryz.underlying197 ok118 rfl rfl ha16) ?_
    obtain ⟨x17, hx17, h⟩ := h
    refine zl 36 hx17 ok118 rfl rfl ?_
    obtain ⟨w18, hw18, hrw18, h⟩ := st_open h
    refine ro_skip (d := none) rfl (.free rfl) rfl (q_store (T := T117) (u := x17) (a := a3) rfl ok118 rfl rfl hrw18 hw18) <| za 5 (.int .i64 ((0 : Int))) rfl rfl <| ro_nil <| wp_ret ?_
    obtain ⟨x19, hx19, h⟩ := h
    exact ret_ok rfl (.cons (.cell (T := T117) (u := x19) (a := a3) ok118 rfl hx19) (.cons (.tmp (v := .int .i64 ((0 : Int))) rfl) .nil)) ⟨(x19, (0 : Int)), rfl, h⟩
def F122 (a_1 : Int) (b_2 : Int) (w : World) (R : (Int × Int) → World → Prop) : Prop :=
 nwS 2 (tInt .i64) [a_1, b_2] w fun a3 w4 =>
 cl Tryz.prog 138 [tSlc.enc ((⟨some a3, 2, 2⟩ : Slc))] (tTup2 (tInt .i64) (tInt .i64)) w4 fun r6 w5 =>
 R (r6.1, r6.2) w5
theorem F122_ok {a_1 : Int} {b_2 : Int} {w : World} {R : (Int × Int) → World → Prop} (h : F122 a_1 b_2 w R) : cl Tryz.prog 122 [.int .i64 (a_1), .int .i64 (b_2)] (tTup2 (tInt .i64) (tInt .i64)) w R := by
 unfold F122 at h
 refine calls_start 12 Tryz.func122 rfl rfl (Nat.le_of_ble_eq_true rfl) <| wp_seq <| wp_text [0, 1] rfl <| za 4 (.int .i64 ((0 : Int))) rfl rfl <| za 5 (.int .i64 ((0 : Int))) rfl rfl <| ro_nil <| wp_seq <| wp_text [0, 1, 2, 3, 4, 5, 6, 7] rfl <| zm 6 (.int .i64 (a_1)) rfl rfl <| zm 7 (.int .i64 (b_2)) rfl rfl ?_
 obtain ⟨a3, w4, ha3, hw4, h⟩ := nwS_open h
 refine rv 8 rfl rfl rfl (q_rowOf (T := (tInt .i64)) (xs := [a_1, b_2]) rfl Tryz.underlying66 ok2 inf2 rfl (by decide) (by decide) rfl ha3 hw4) <| zc ent138 rfl rfl h fun r6 w5 h => ze 10 (.int .i64 (r6.1)) rfl rfl rfl <| ze 11 (.int .i64 (r6.2)) rfl rfl rfl <| za 4 (.int .i64 (r6.1)) rfl rfl <| za 5 (.int .i64 (r6.2)) rfl rfl <| ro_nil <| wp_ret ?_
 exact zr2 h rfl rfl
def F123 (n_1 : Int) (rate_2 : Nat) (w : World) (R : (Int × Int) → World → Prop) : Prop :=
 cl Tryz.prog 54 [.int .i64 (n_1)] (tInt .i64) w fun r4 w3 =>
 if (r4 != (0 : Int)) = true then (
  R ((0 : Int), r4) w3
 ) else (
  cl Tryz.prog 32 [.float .f64 (rate_2)] (tInt .i64) w3 fun r6 w5 =>
  if (r6 != (0 : Int)) = true then (
   R ((0 : Int), r6) w5
  ) else (
   cl Tryz.prog 139 [.int .i64 (n_1), .float .f64 (rate_2)] (tTup2 (tInt .i64) (tInt .i64)) w5 fun r8 w7 =>
   R (r8.1, r8.2) w7
  )
 )
theorem F123_ok {n_1 : Int} {rate_2 : Nat} {w : World} {R : (Int × Int) → World → Prop} (h : F123 n_1 rate_2 w R) : cl Tryz.prog 123 [.int .i64 (n_1), .float .f64 (rate_2)] (tTup2 (tInt .i64) (tInt .i64)) w R := by
 unfold F123 at h
 refine calls_start 23 Tryz.func123 rfl rfl (Nat.le_of_ble_eq_true rfl) <| wp_seq <| wp_text [0, 1] rfl <| za 4 (.int .i64 ((0 : Int))) rfl rfl <| za 5 (.int .i64 ((0 : Int))) rfl rfl <| ro_nil <| wp_seq <| wp_seq <| wp_text [0, 1, 2] rfl <| zm 8 (.int .i64 (n_1)) rfl rfl <| zc ent54 rfl rfl h fun r4 w3 h => za 6 (.int .i64 (r4)) rfl rfl ?_
 refine ro_nil <| wp_seq <| wp_text [0, 1] rfl <| zm 10 (.int .i64 (r4)) rfl rfl <| rv 11 rfl rfl rfl (q_neq (a := r4) (b := (0 : Int)) rfl rfl rfl) <| ro_nil <| zi h rfl (fun _ h => ?_) fun _ h => ?_
 ·refine wp_seq <| wp_text [0, 1, 2] rfl <| zm 12 (.int .i64 (r4)) rfl rfl <| za 4 (.int .i64 ((0 : Int))) rfl rfl <| za 5 (.int .i64 (r4)) rfl rfl <| ro_nil <| wp_ret ?_
  exact zr2 h rfl rfl
 ·refine wp_skip <| wp_seq <| wp_seq <| wp_text [0, 1, 2] rfl <| zm 13 (.float .f64 (rate_2)) rfl rfl <| zc ent32 rfl rfl h fun r6 w5 h => za 7 (.int .i64 (r6)) rfl rfl <| ro_nil <| wp_seq <| wp_text [0, 1] rfl <| zm 15 (.int .i64 (r6)) rfl rfl <| rv 16 rfl rfl rfl (q_neq (a := r6) (b := (0 : Int)) rfl rfl rfl) ?_
  refine ro_nil <| zi h rfl (fun _ h => ?_) fun _ h => ?_
  ·refine wp_seq <| wp_text [0, 1, 2] rfl <| zm 17 (.int .i64 (r6)) rfl rfl <| za 4 (.int .i64 ((0 : Int))) rfl rfl <| za 5 (.int .i64 (r6)) rfl rfl <| ro_nil <| wp_ret ?_
   exact zr2 h rfl rfl
  ·refine wp_skip <| wp_seq <| wp_text [0, 1, 2, 3, 4, 5, 6] rfl <| zm 18 (.int .i64 (n_1)) rfl rfl <| zm 19 (.float .f64 (rate_2)) rfl rfl <| zc ent139 rfl rfl h fun r8 w7 h => ze 21 (.int .i64 (r8.1)) rfl rfl rfl <| ze 22 (.int .i64 (r8.2)) rfl rfl rfl <| za 4 (.int .i64 (r8.1)) rfl rfl <| za 5 (.int .i64 (r8.2)) rfl rfl <| ro_nil <| wp_ret ?_
   exact zr2 h rfl rfl
def F124 (t_1 : Int) (w : World) (R : Bool → World → Prop) : Prop :=
 R ((decide (t_1 ≥ (0 : Int))) && (decide (t_1 ≤ (1125899906842624 : Int)))) w
theorem F124_ok {t_1 : Int} {w : World} {R : Bool → World → Prop} (h : F124 t_1 w R) : cl Tryz.prog 124 [.int .i64 (t_1)] tBool w R := by
 unfold F124 at h
 refine calls_start 9 Tryz.func124 rfl rfl (Nat.le_of_ble_eq_true rfl) <| wp_seq <| wp_text [0] rfl <| za 2 (.bool (false)) rfl rfl <| ro_nil <| wp_seq <| wp_text [0, 1, 2, 3, 4, 5, 6] rfl <| zm 3 (.int .i64 (t_1)) rfl rfl <| rv 4 rfl rfl rfl (q_geq (a := t_1) (b := (0 : Int)) rfl rfl rfl) <| zm 5 (.bool ((decide (t_1 ≥ (0 : Int))))) rfl rfl <| ro_gval (g := (decide (t_1 ≥ (0 : Int)))) (d := (some 6)) rfl (.yes 2 5 true (decide (t_1 ≥ (0 : Int))) rfl rfl rfl rfl) rfl (fun hg => q_move (v := .int .i64 (t_1)) rfl rfl) <| ro_gval (g := (decide (t_1 ≥ (0 : Int)))) (d := (some 7)) rfl (.yes 2 5 true (decide (t_1 ≥ (0 : Int))) rfl rfl rfl rfl) rfl (fun hg => q_leq (k := .i64) (a := t_1) (b := (1125899906842624 : Int)) rfl (gvb_yes hg) rfl) ?_
 refine rv 8 rfl rfl rfl (q_pickGT (a := (decide (t_1 ≥ (0 : Int)))) (b := (decide (t_1 ≤ (1125899906842624 : Int)))) rfl rfl rfl rfl) <| za 2 (.bool (((decide (t_1 ≥ (0 : Int))) && (decide (t_1 ≤ (1125899906842624 : Int)))))) rfl rfl <| ro_nil <| wp_ret ?_
 exact zr1 h rfl rfl
def F125 (c_1 : (Option Addr)) (mark_2 : Int) (w : World) (R : Int → World → Prop) : Prop :=
 if ((decide (mark_2 < (0 : Int))) || (decide (mark_2 > (1125899906842624 : Int)))) = true then (
  R (110 : Int) w
 ) else (
  ex (NC c_1) fun a3 =>
  ex (RdAt (tInt .i64) (a3.add 1) w) fun x4 =>
  st (tInt .i64) (a3.add 1) (max x4 mark_2) w fun w5 =>
  ex (RdAt (tInt .i64) (a3.add 1) w5) fun x6 =>
  cl Tryz.prog 137 [.pointer (c_1), .int .i64 (x6)] (tInt .i64) w5 fun r8 w7 =>
  ex (RdAt tSlc (a3.add 0) w7) fun x9 =>
  mkS 118 T117 16 Z117 (IntKind.i64.wrap ((x9.len : Int) - (max (IntKind.i64.wrap (r8 - (1 : Int))) (0 : Int)))) (IntKind.i64.wrap ((x9.len : Int) - (max (IntKind.i64.wrap (r8 - (1 : Int))) (0 : Int)))) w7 fun r11 w10 =>
  ex (RdAt tSlc (a3.add 0) w10) fun x12 =>
  ex (Sub x12 2 (max (IntKind.i64.wrap (r8 - (1 : Int))) (0 : Int)) ((x12).len : Int) ((x12).cap : Int)) fun s13 =>
  cpy T117 2 r11 s13 w10 fun r15 w14 =>
  ex (Sub r11 2 0 (r11.len : Int) (r11.len : Int)) fun s16 =>
  st tSlc (a3.add 0) s16 w14 fun w17 =>
  R (0 : Int) w17
 )
theorem F125_ok {c_1 : (Option Addr)} {mark_2 : Int} {w : World} {R : Int → World → Prop} (h : F125 c_1 mark_2 w R) : cl Tryz.prog 125 [.pointer (c_1), .int .i64 (mark_2)] (tInt .i64) w R := by
 unfold F125 at h
 refine calls_start 55 Tryz.func125 rfl rfl (Nat.le_of_ble_eq_true rfl) <| wp_seq <| wp_text [0] rfl <| za 4 (.int .i64 ((0 : Int))) rfl rfl <| ro_nil <| wp_seq <| wp_seq <| wp_text [0, 1, 2, 3, 4, 5] rfl <| zm 7 (.int .i64 (mark_2)) rfl rfl <| rv 8 rfl rfl rfl (q_lss (a := mark_2) (b := (0 : Int)) rfl rfl rfl) <| zm 9 (.bool ((decide (mark_2 < (0 : Int))))) rfl rfl <| ro_gval (g := (!(decide (mark_2 < (0 : Int))))) (d := (some 10)) rfl (.no 2 9 true (decide (mark_2 < (0 : Int))) rfl rfl rfl rfl) rfl (fun hg => q_move (v := .int .i64 (mark_2)) rfl rfl) ?_
 refine ro_gval (g := (!(decide (mark_2 < (0 : Int))))) (d := (some 11)) rfl (.no 2 9 true (decide (mark_2 < (0 : Int))) rfl rfl rfl rfl) rfl (fun hg => q_gtr (k := .i64) (a := mark_2) (b := (1125899906842624 : Int)) rfl (gvb_yes hg) rfl) <| rv 12 rfl rfl rfl (q_pickGF (a := (decide (mark_2 < (0 : Int)))) (c := (decide (mark_2 > (1125899906842624 : Int)))) rfl rfl rfl rfl) <| ro_nil <| zi h rfl (fun _ h => ?_) fun _ h => ?_
 ·refine wp_seq <| wp_text [0] rfl <| za 4 (.int .i64 ((110 : Int))) rfl rfl <| ro_nil <| wp_ret ?_
  exact zr1 h rfl rfl
 ·refine wp_skip <| wp_seq <| wp_text [0, 1, 2, 3, 4, 5, 6, 7, 8, 9] rfl <| zm 13 (.pointer (c_1)) rfl rfl <| zm 14 (.pointer (c_1)) rfl rfl ?_
  obtain ⟨a3, ha3, h⟩ := h
  refine zn 15 ha3 rfl rfl <| zf 16 a3 1 Tryz.underlying199 ok2 rfl rfl rfl ?_
  obtain ⟨x4, hx4, h⟩ := h
  refine zl 17 hx4 ok2 rfl rfl <| zm 18 (.int .i64 (mark_2)) rfl rfl <| rv 19 rfl rfl rfl (q_max (a := x4) (b := mark_2) rfl rfl rfl) <| zn 20 ha3 rfl rfl <| zf 21 a3 1 Tryz.underlying199 ok2 rfl rfl rfl ?_
  obtain ⟨w5, hw5, hrw5, h⟩ := st_open h
  refine ro_skip (d := none) rfl (.free rfl) rfl (q_store (T := (tInt .i64)) (u := (max x4 mark_2)) (a := (a3.add 1)) rfl ok2 rfl rfl hrw5 hw5) <| ro_nil <| wp_seq <| wp_text [0, 1, 2, 3, 4, 5, 6, 7, 8] rfl <| zm 22 (.pointer (c_1)) rfl rfl <| zm 23 (.pointer (c_1)) rfl rfl <| zn 24 ha3 rfl rfl <| zf 25 a3 1 Tryz.underlying199 ok2 rfl rfl rfl ?_
  obtain ⟨x6, hx6, h⟩ := h
  refine zl 26 hx6 ok2 rfl rfl <| zc ent137 rfl rfl h fun r8 w7 h => rv 28 rfl rfl rfl (q_sub (a := r8) (b := (1 : Int)) rfl rfl rfl) <| rv 29 rfl rfl rfl (q_max (a := (IntKind.i64.wrap (r8 - (1 : Int)))) (b := (0 : Int)) rfl rfl rfl) <| za 5 (.int .i64 ((max (IntKind.i64.wrap (r8 - (1 : Int))) (0 : Int)))) rfl rfl <| ro_nil <| wp_seq <| wp_text [0, 1, 2, 3, 4, 5, 6, 7, 8] rfl <| zm 30 (.pointer (c_1)) rfl rfl <| zn 31 ha3 rfl rfl <| zf 32 a3 0 Tryz.underlying199 ok197 rfl rfl rfl ?_
  obtain ⟨x9, hx9, h⟩ := h
  refine zl 33 hx9 ok197 rfl rfl <| rv 34 rfl rfl rfl (q_len (s := x9) rfl Tryz.underlying197 rfl) <| zm 35 (.int .i64 ((max (IntKind.i64.wrap (r8 - (1 : Int))) (0 : Int)))) rfl rfl <| rv 36 rfl rfl rfl (q_sub (a := (x9.len : Int)) (b := (max (IntKind.i64.wrap (r8 - (1 : Int))) (0 : Int))) rfl rfl rfl) <| ro_wp rfl (.free rfl) (wp_mkS (T := T117) (z := Z117) (l := (IntKind.i64.wrap ((x9.len : Int) - (max (IntKind.i64.wrap (r8 - (1 : Int))) (0 : Int))))) (c := (IntKind.i64.wrap ((x9.len : Int) - (max (IntKind.i64.wrap (r8 - (1 : Int))) (0 : Int))))) (d := (some 37)) rfl rfl Tryz.underlying197 ok118 inf118 rfl rfl h ?_)
  intro r11 w10 h
  refine za 6 (tSlc.enc (r11)) rfl rfl <| ro_nil <| wp_seq <| wp_text [0, 1, 2, 3, 4, 5, 6, 7] rfl <| zm 38 (tSlc.enc (r11)) rfl rfl <| zm 39 (.pointer (c_1)) rfl rfl <| zn 40 ha3 rfl rfl <| zf 41 a3 0 Tryz.underlying199 ok197 rfl rfl rfl ?_
  obtain ⟨x12, hx12, h⟩ := h
  refine zl 42 hx12 ok197 rfl rfl <| zm 43 (.int .i64 ((max (IntKind.i64.wrap (r8 - (1 : Int))) (0 : Int)))) rfl rfl ?_
  obtain ⟨s13, hs13, h⟩ := h
  refine rv 44 rfl rfl rfl (q_sliceL (s := x12) (l := (max (IntKind.i64.wrap (r8 - (1 : Int))) (0 : Int))) rfl Tryz.underlying197 ok118 rfl rfl hs13) <| ro_wp rfl (.free rfl) (wp_cpy (T := T117) (s := r11) (b := s13) (d := (some 45)) rfl rfl Tryz.underlying197 ok118 rfl rfl h ?_)
  intro r15 w14 h
  refine ro_nil <| wp_seq <| wp_text [0, 1, 2, 3, 4, 5, 6, 7, 8, 9] rfl <| zm 46 (.pointer (c_1)) rfl rfl <| zm 47 (tSlc.enc (r11)) rfl rfl <| zm 48 (tSlc.enc (r11)) rfl rfl <| rv 49 rfl rfl rfl (q_len (s := r11) rfl Tryz.underlying197 rfl) <| zm 50 (tSlc.enc (r11)) rfl rfl <| rv 51 rfl rfl rfl (q_len (s := r11) rfl Tryz.underlying197 rfl) ?_
  obtain ⟨s16, hs16, h⟩ := h
  refine rv 52 rfl rfl rfl (q_sliceHM (s := r11) (h := (r11.len : Int)) (m := (r11.len : Int)) rfl Tryz.underlying197 ok118 rfl rfl rfl hs16) <| zn 53 ha3 rfl rfl <| zf 54 a3 0 Tryz.underlying199 ok197 rfl rfl rfl ?_
  obtain ⟨w17, hw17, hrw17, h⟩ := st_open h
  refine ro_skip (d := none) rfl (.free rfl) rfl (q_store (T := tSlc) (u := s16) (a := (a3.add 0)) rfl ok197 rfl rfl hrw17 hw17) <| ro_nil <| wp_seq <| wp_text [0] rfl <| za 4 (.int .i64 ((0 : Int))) rfl rfl <| ro_nil <| wp_ret ?_
  exact zr1 h rfl rfl
def F126 (key_1 : Int) (w : World) (R : Bool → World → Prop) : Prop :=
 R ((decide (key_1 ≥ (0 : Int))) && (decide (key_1 < (8192 : Int)))) w
theorem F126_ok {key_1 : Int} {w : World} {R : Bool → World → Prop} (h : F126 key_1 w R) : cl Tryz.prog 126 [.int .i64 (key_1)] tBool w R := by
 unfold F126 at h
 refine calls_start 9 Tryz.func126 rfl rfl (Nat.le_of_ble_eq_true rfl) <| wp_seq <| wp_text [0] rfl <| za 2 (.bool (false)) rfl rfl <| ro_nil <| wp_seq <| wp_text [0, 1, 2, 3, 4, 5, 6] rfl <| zm 3 (.int .i64 (key_1)) rfl rfl <| rv 4 rfl rfl rfl (q_geq (a := key_1) (b := (0 : Int)) rfl rfl rfl) <| zm 5 (.bool ((decide (key_1 ≥ (0 : Int))))) rfl rfl <| ro_gval (g := (decide (key_1 ≥ (0 : Int)))) (d := (some 6)) rfl (.yes 2 5 true (decide (key_1 ≥ (0 : Int))) rfl rfl rfl rfl) rfl (fun hg => q_move (v := .int .i64 (key_1)) rfl rfl) <| ro_gval (g := (decide (key_1 ≥ (0 : Int)))) (d := (some 7)) rfl (.yes 2 5 true (decide (key_1 ≥ (0 : Int))) rfl rfl rfl rfl) rfl (fun hg => q_lss (k := .i64) (a := key_1) (b := (8192 : Int)) rfl (gvb_yes hg) rfl) ?_
 refine rv 8 rfl rfl rfl (q_pickGT (a := (decide (key_1 ≥ (0 : Int)))) (b := (decide (key_1 < (8192 : Int)))) rfl rfl rfl rfl) <| za 2 (.bool (((decide (key_1 ≥ (0 : Int))) && (decide (key_1 < (8192 : Int)))))) rfl rfl <| ro_nil <| wp_ret ?_
 exact zr1 h rfl rfl
def F127_j1 (t_6 : Bool) (w7 : World) (R : Bool → World → Prop) : Prop :=
 R t_6 w7
def F127 (s_1 : (Option Addr)) (key_2 : Int) (w : World) (R : Bool → World → Prop) : Prop :=
 ex (NC s_1) fun a3 =>
 ex (RdAt tMap (a3.add 0) w) fun x4 =>
 ex (MapGet tPtr .i64 x4 key_2 w) fun m5 =>
 if ((m5.getD (none : Option Addr), m5.isSome)).2 = true then (
  cl Tryz.prog 140 [.pointer (((m5.getD (none : Option Addr), m5.isSome)).1)] tSlc w fun r10 w9 =>
  F127_j1 (decide ((r10.len : Int) ≥ (10000 : Int))) w9 R
 ) else (
  F127_j1 false w R
 )
theorem F127_ok {s_1 : (Option Addr)} {key_2 : Int} {w : World} {R : Bool → World → Prop} (h : F127 s_1 key_2 w R) : cl Tryz.prog 127 [.pointer (s_1), .int .i64 (key_2)] tBool w R := by
 unfold F127 at h
 refine calls_start 23 Tryz.func127 rfl rfl (Nat.le_of_ble_eq_true rfl) <| wp_seq <| wp_text [0] rfl <| za 4 (.bool (false)) rfl rfl <| ro_nil <| wp_seq <| wp_text [0, 1, 2, 3, 4, 5, 6, 7, 8, 9, 10] rfl <| zm 8 (.pointer (s_1)) rfl rfl ?_
 obtain ⟨a3, ha3, h⟩ := h
 refine zn 9 ha3 rfl rfl <| zf 10 a3 0 Tryz.underlying169 ok167 rfl rfl rfl ?_
 obtain ⟨x4, hx4, h⟩ := h
 refine zl 11 hx4 ok167 rfl rfl <| zm 12 (.int .i64 (key_2)) rfl rfl ?_
 obtain ⟨m5, hm5, h⟩ := h
 refine rv 13 rfl rfl rfl (q_lookup2 (T := tPtr) (r := x4) (key := key_2) (u := m5) (z := (none : Option Addr)) rfl Tryz.underlying167 Tryz.underlying3 (inf165) rfl rfl hm5) <| zm 7 ((tTup2 tPtr tBool).enc (((m5.getD (none : Option Addr), m5.isSome)))) rfl rfl <| ze 14 (.pointer (((m5.getD (none : Option Addr), m5.isSome)).1)) rfl rfl rfl <| ze 15 (.bool (((m5.getD (none : Option Addr), m5.isSome)).2)) rfl rfl rfl <| za 5 (.pointer (((m5.getD (none : Option Addr), m5.isSome)).1)) rfl rfl <| za 6 (.bool (((m5.getD (none : Option Addr), m5.isSome)).2)) rfl rfl <| ro_nil <| wp_seq <| wp_text [0, 1, 2, 3, 4, 5, 6, 7] rfl <| zm 16 (.bool (((m5.getD (none : Option Addr), m5.isSome)).2)) rfl rfl <| zm 17 (.bool (((m5.getD (none : Option Addr), m5.isSome)).2)) rfl rfl <| ro_join (σ := Bool) (J := fun (s : Bool) w => F127_j1 s w R) (fr := fun g (s : Bool) => upd (g) 22 (.bool (s))) [2, 3, 4, 5, 6] [7] ?_ ?_
 ·rintro t_6 g w7 h
  unfold F127_j1 at h
  refine za 4 (.bool (t_6)) rfl rfl <| ro_nil <| wp_ret ?_
  exact zr1 h rfl rfl
 ·refine ro_if (b := ((m5.getD (none : Option Addr), m5.isSome)).2) h (fun hb8 h => ?_) (fun hb8 h => ?_)
  ·refine ro_val (d := (some 18)) rfl (.by_ 1 true 17 (((m5.getD (none : Option Addr), m5.isSome)).2) rfl rfl rfl hb8) rfl (q_move (v := .pointer (((m5.getD (none : Option Addr), m5.isSome)).1)) rfl rfl) <| ro_wp rfl (.by_ 1 true 17 (((m5.getD (none : Option Addr), m5.isSome)).2) rfl rfl rfl hb8) (wp_cl (d := (some 19)) rfl (q_call (k := 140) (l := [.pointer (((m5.getD (none : Option Addr), m5.isSome)).1)]) rfl ent140 rfl) h ?_)
   intro r10 w9 h
   refine ro_val (d := (some 20)) rfl (.by_ 1 true 17 (((m5.getD (none : Option Addr), m5.isSome)).2) rfl rfl rfl hb8) rfl (q_len (s := r10) rfl Tryz.underlying197 rfl) <| ro_val (d := (some 21)) rfl (.by_ 1 true 17 (((m5.getD (none : Option Addr), m5.isSome)).2) rfl rfl rfl hb8) rfl (q_geq (a := (r10.len : Int)) (b := (10000 : Int)) rfl rfl rfl) <| rv 22 rfl rfl rfl (q_pickT (v := .bool ((decide ((r10.len : Int) ≥ (10000 : Int))))) (b := ((m5.getD (none : Option Addr), m5.isSome)).2) rfl rfl hb8 rfl) <| ro_nil ?_
   exact ⟨((decide ((r10.len : Int) ≥ (10000 : Int)))), _, arr (upd_step rfl rfl), h⟩
  ·refine ro_bar (d := (some 18)) rfl (.by_ 1 true 17 (((m5.getD (none : Option Addr), m5.isSome)).2) rfl rfl rfl hb8) rfl <| ro_bar (d := (some 19)) rfl (.by_ 1 true 17 (((m5.getD (none : Option Addr), m5.isSome)).2) rfl rfl rfl hb8) rfl <| ro_bar (d := (some 20)) rfl (.by_ 1 true 17 (((m5.getD (none : Option Addr), m5.isSome)).2) rfl rfl rfl hb8) rfl <| ro_bar (d := (some 21)) rfl (.by_ 1 true 17 (((m5.getD (none : Option Addr), m5.isSome)).2) rfl rfl rfl hb8) rfl <| rv 22 rfl rfl rfl (q_pickF (v := .bool (false)) (b := ((m5.getD (none : Option Addr), m5.isSome)).2) rfl rfl hb8 rfl) <| ro_nil ?_
   exact ⟨(false), _, arr (upd_step rfl rfl), h⟩
def F128_j1 (b_2 : Int) (w3 : World) (R : (Nat × Bool) → World → Prop) : Prop :=
 if (fcmp .neq (Int.toNat b_2) (Int.toNat b_2)) = true then (
  R ((0 : Nat), false) w3
 ) else (
  R ((Int.toNat b_2), true) w3
 )
def F128 (k_1 : Int) (w : World) (R : (Nat × Bool) → World → Prop) : Prop :=
 if (k_1 == (0 : Int)) = true then (
  R ((Int.toNat (9221120237041090561 : Int)), true) w
 ) else (
  ex (Shift (63 : Int) (Int.fdiv k_1 (2 ^ (min ((63 : Int)).toNat IntKind.u64.bits)))) fun d5 =>
  if (d5 == (1 : Int)) = true then (
   F128_j1 (bits .andNot .u64 k_1 (9223372036854775808 : Int)) w R
  ) else (
   F128_j1 (bits .xor .u64 IntKind.u64.max k_1) w R
  )
 )
theorem F128_ok {k_1 : Int} {w : World} {R : (Nat × Bool) → World → Prop} (h : F128 k_1 w R) : cl Tryz.prog 128 [.int .u64 (k_1)] (tTup2 tFlt tBool) w R := by
 unfold F128 at h
 refine calls_start 22 Tryz.func128 rfl rfl (Nat.le_of_ble_eq_true rfl) <| wp_seq <| wp_text [0, 1] rfl <| za 2 (.float .f64 ((0 : Nat))) rfl rfl <| za 3 (.bool (false)) rfl rfl <| ro_nil <| wp_seq <| wp_seq <| wp_text [0, 1] rfl <| zm 6 (.int .u64 (k_1)) rfl rfl <| rv 7 rfl rfl rfl (q_eql (a := k_1) (b := (0 : Int)) rfl rfl rfl) <| ro_nil ?_
 refine zi h rfl (fun _ h => ?_) fun _ h => ?_
 ·refine wp_seq <| wp_text [0, 1, 2] rfl <| rv 8 rfl rfl rfl (q_f64from (b := (9221120237041090561 : Int)) rfl ext99 rfl) <| za 2 (.float .f64 ((Int.toNat (9221120237041090561 : Int)))) rfl rfl <| za 3 (.bool (true)) rfl rfl <| ro_nil <| wp_ret ?_
  exact zr2 h rfl rfl
 ·refine wp_skip <| wp_seq <| wp_text [0, 1, 2] rfl <| zm 9 (.int .u64 (k_1)) rfl rfl <| rv 10 rfl rfl rfl (q_notU (a := k_1) rfl rfl rfl) <| za 4 (.int .u64 ((bits .xor .u64 IntKind.u64.max k_1))) rfl rfl <| ro_nil <| seq_join (σ := Int) (J := fun (s : Int) w => F128_j1 s w R) (fr := fun g (s : Int) => upd (g) 4 (.int .u64 (s))) ?_ ?_
  ·rintro b_2 g w3 h
   unfold F128_j1 at h
   refine wp_seq <| wp_text [0, 1, 2] rfl <| zm 16 (.int .u64 (b_2)) rfl rfl <| rv 17 rfl rfl rfl (q_f64from (b := b_2) rfl ext99 rfl) <| za 5 (.float .f64 ((Int.toNat b_2))) rfl rfl <| ro_nil <| wp_seq <| wp_seq <| wp_text [0, 1, 2] rfl <| zm 18 (.float .f64 ((Int.toNat b_2))) rfl rfl <| zm 19 (.float .f64 ((Int.toNat b_2))) rfl rfl <| rv 20 rfl rfl rfl (q_fcmp (op := .neq) (a := (Int.toNat b_2)) (b := (Int.toNat b_2)) rfl (by decide) rfl rfl) ?_
   refine ro_nil <| zi h rfl (fun _ h => ?_) fun _ h => ?_
   ·refine wp_seq <| wp_text [0, 1] rfl <| za 2 (.float .f64 ((0 : Nat))) rfl rfl <| za 3 (.bool (false)) rfl rfl <| ro_nil <| wp_ret ?_
    exact zr2 h rfl rfl
   ·refine wp_skip <| wp_seq <| wp_text [0, 1, 2] rfl <| zm 21 (.float .f64 ((Int.toNat b_2))) rfl rfl <| za 2 (.float .f64 ((Int.toNat b_2))) rfl rfl <| za 3 (.bool (true)) rfl rfl <| ro_nil <| wp_ret ?_
    exact zr2 h rfl rfl
  ·refine wp_seq <| wp_text [0, 1, 2] rfl <| zm 11 (.int .u64 (k_1)) rfl rfl ?_
   obtain ⟨d5, hd5, h⟩ := h
   refine rv 12 rfl rfl rfl (q_shr (a := k_1) (b := (63 : Int)) (r := d5) rfl rfl rfl hd5) <| rv 13 rfl rfl rfl (q_eql (a := d5) (b := (1 : Int)) rfl rfl rfl) <| ro_nil <| zi h rfl (fun _ h => ?_) fun _ h => ?_
   ·refine wp_text [0, 1, 2] rfl <| zm 14 (.int .u64 (k_1)) rfl rfl <| rv 15 rfl rfl rfl (q_andNot (a := k_1) (b := (9223372036854775808 : Int)) rfl rfl rfl) <| za 4 (.int .u64 ((bits .andNot .u64 k_1 (9223372036854775808 : Int)))) rfl rfl <| ro_nil ?_
    exact ⟨((bits .andNot .u64 k_1 (9223372036854775808 : Int))), _, arr (upd_step rfl rfl), h⟩
   ·refine wp_skip ?_
    exact ⟨((bits .xor .u64 IntKind.u64.max k_1)), _, arr (upd_step rfl rfl), h⟩
def F130 (x_1 : Nat) (w : World) (R : Nat → World → Prop) : Prop :=
 R (Int.toNat (bits .andNot .u64 (x_1 : Int) (9223372036854775808 : Int))) w
theorem F130_ok {x_1 : Nat} {w : World} {R : Nat → World → Prop} (h : F130 x_1 w R) : cl Tryz.prog 130 [.float .f64 (x_1)] tFlt w R := by
 unfold F130 at h
 refine calls_start 7 Tryz.func130 rfl rfl (Nat.le_of_ble_eq_true rfl) <| wp_seq <| wp_text [0] rfl <| za 2 (.float .f64 ((0 : Nat))) rfl rfl <| ro_nil <| wp_seq <| wp_text [0, 1, 2, 3, 4] rfl <| zm 3 (.float .f64 (x_1)) rfl rfl <| rv 4 rfl rfl rfl (q_f64bits (b := x_1) rfl ext102 rfl) <| rv 5 rfl rfl rfl (q_andNot (a := (x_1 : Int)) (b := (9223372036854775808 : Int)) rfl rfl rfl) <| rv 6 rfl rfl rfl (q_f64from (b := (bits .andNot .u64 (x_1 : Int) (9223372036854775808 : Int))) rfl ext99 rfl) <| za 2 (.float .f64 ((Int.toNat (bits .andNot .u64 (x_1 : Int) (9223372036854775808 : Int))))) rfl rfl ?_
 refine ro_nil <| wp_ret ?_
 exact zr1 h rfl rfl
def F131 (b_1 : Slc) (w : World) (R : Int → World → Prop) : Prop :=
 dr w fun w2 =>
 ex (IxA b_1 1 (0 : Int)) fun a3 =>
 ex (IxA b_1 1 (1 : Int)) fun a4 =>
 ex (IxA b_1 1 (2 : Int)) fun a5 =>
 ex (IxA b_1 1 (3 : Int)) fun a6 =>
 ex (RdAt (tInt .u8) a3 w2) fun x7 =>
 ex (Shift (24 : Int) (IntKind.u32.wrap ((IntKind.u32.wrap x7) * 2 ^ (min ((24 : Int)).toNat IntKind.u32.bits)))) fun d8 =>
 ex (RdAt (tInt .u8) a4 w2) fun x9 =>
 ex (Shift (16 : Int) (IntKind.u32.wrap ((IntKind.u32.wrap x9) * 2 ^ (min ((16 : Int)).toNat IntKind.u32.bits)))) fun d10 =>
 ex (RdAt (tInt .u8) a5 w2) fun x11 =>
 ex (Shift (8 : Int) (IntKind.u32.wrap ((IntKind.u32.wrap x11) * 2 ^ (min ((8 : Int)).toNat IntKind.u32.bits)))) fun d12 =>
 ex (RdAt (tInt .u8) a6 w2) fun x13 =>
 R (bits .or .u32 (bits .or .u32 (bits .or .u32 d8 d10) d12) (IntKind.u32.wrap x13)) w2
theorem F131_ok {b_1 : Slc} {w : World} {R : Int → World → Prop} (h : F131 b_1 w R) : cl Tryz.prog 131 [tSlc.enc (b_1)] (tInt .u32) w R := by
 unfold F131 at h
 refine calls_start 25 Tryz.func131 rfl rfl (Nat.le_of_ble_eq_true rfl) <| wp_seq <| wp_text [0] rfl <| za 2 (.int .u32 ((0 : Int))) rfl rfl <| ro_nil <| wp_seq ?_
 obtain ⟨w2, hw2, h⟩ := dr_open h
 refine wp_drawn 23 mixed rfl (by kernel_rfl) (by intro c a d v w h; cases d <;> exact h) hw2 (fun hD => ?_)
 refine ym 0 3 (tSlc.enc (b_1)) hD rfl rfl ?_
 obtain ⟨a3, ha3, h⟩ := h
 refine rp 1 4 hD rfl rfl rfl (fun _ => q_indexAddr (s := b_1) (k := .i64) (i := (0 : Int)) rfl Tryz.underlying25 ok5 rfl rfl ha3) <| ym 5 8 (tSlc.enc (b_1)) hD rfl rfl ?_
 obtain ⟨a4, ha4, h⟩ := h
 refine rp 6 9 hD rfl rfl rfl (fun _ => q_indexAddr (s := b_1) (k := .i64) (i := (1 : Int)) rfl Tryz.underlying25 ok5 rfl rfl ha4) <| ym 11 14 (tSlc.enc (b_1)) hD rfl rfl ?_
 obtain ⟨a5, ha5, h⟩ := h
 refine rp 12 15 hD rfl rfl rfl (fun _ => q_indexAddr (s := b_1) (k := .i64) (i := (2 : Int)) rfl Tryz.underlying25 ok5 rfl rfl ha5) <| ym 17 20 (tSlc.enc (b_1)) hD rfl rfl ?_
 obtain ⟨a6, ha6, h⟩ := h
 refine rp 18 21 hD rfl rfl rfl (fun _ => q_indexAddr (s := b_1) (k := .i64) (i := (3 : Int)) rfl Tryz.underlying25 ok5 rfl rfl ha6) ?_
 obtain ⟨x7, hx7, h⟩ := h
 refine yr 2 5 hx7 ok5 hD rfl rfl <| rp 3 6 hD rfl rfl rfl (fun _ => q_cvtI (a := x7) rfl Tryz.underlying5 Tryz.underlying189 rfl) ?_
 obtain ⟨d8, hd8, h⟩ := h
 refine rp 4 7 hD rfl rfl rfl (fun _ => q_shl (a := (IntKind.u32.wrap x7)) (b := (24 : Int)) (r := d8) rfl rfl rfl hd8) ?_
 obtain ⟨x9, hx9, h⟩ := h
 refine yr 7 10 hx9 ok5 hD rfl rfl <| rp 8 11 hD rfl rfl rfl (fun _ => q_cvtI (a := x9) rfl Tryz.underlying5 Tryz.underlying189 rfl) ?_
 obtain ⟨d10, hd10, h⟩ := h
 refine rp 9 12 hD rfl rfl rfl (fun _ => q_shl (a := (IntKind.u32.wrap x9)) (b := (16 : Int)) (r := d10) rfl rfl rfl hd10) <| rp 10 13 hD rfl rfl rfl (fun _ => q_or (a := d8) (b := d10) rfl rfl rfl) ?_
 obtain ⟨x11, hx11, h⟩ := h
 refine yr 13 16 hx11 ok5 hD rfl rfl <| rp 14 17 hD rfl rfl rfl (fun _ => q_cvtI (a := x11) rfl Tryz.underlying5 Tryz.underlying189 rfl) ?_
 obtain ⟨d12, hd12, h⟩ := h
 refine rp 15 18 hD rfl rfl rfl (fun _ => q_shl (a := (IntKind.u32.wrap x11)) (b := (8 : Int)) (r := d12) rfl rfl rfl hd12) <| rp 16 19 hD rfl rfl rfl (fun _ => q_or (a := (bits .or .u32 d8 d10)) (b := d12) rfl rfl rfl) ?_
 obtain ⟨x13, hx13, h⟩ := h
 refine yr 19 22 hx13 ok5 hD rfl rfl <| rp 20 23 hD rfl rfl rfl (fun _ => q_cvtI (a := x13) rfl Tryz.underlying5 Tryz.underlying189 rfl) <| rp 21 24 hD rfl rfl rfl (fun _ => q_or (a := (bits .or .u32 (bits .or .u32 d8 d10) d12)) (b := (IntKind.u32.wrap x13)) rfl rfl rfl) <| ya 22 2 (.int .u32 ((bits .or .u32 (bits .or .u32 (bits .or .u32 d8 d10) d12) (IntKind.u32.wrap x13)))) hD rfl rfl <| rd_nil (by kernel_rfl) <| wp_ret ?_
 exact zr1 h rfl rfl
end Go.Proofs.YtehclfjjjiiieaaGreat.Cf
namespace Go.Proofs.YtehclfjjjiiieaaGreat.Cf
open Go
set_option maxRecDepth 100000
set_option maxHeartbeats 1000000
set_option linter.unusedVariables false
set_option linter.unusedSimpArgs false
def F132_l2 (t_4 : Int) (c_9 : Int) (t_10 : Int) (w11 : World) (K6 : Int × Int → World → Prop) (K12 : Int × Int → World → Prop) (R : Int → World → Prop) : Prop :=
 if (decide (t_10 < (8 : Int))) = true then (
  ex (Shift (1 : Int) (Int.fdiv c_9 (2 ^ (min ((1 : Int)).toNat IntKind.u32.bits)))) fun d13 =>
  K12 ((bits .xor .u32 d13 (bits .and .u32 (IntKind.u32.wrap (0 - (bits .and .u32 c_9 (1 : Int)))) (3988292384 : Int))), (IntKind.i64.wrap (t_10 + (1 : Int)))) w11
 ) else (
  K6 (c_9, (IntKind.i64.wrap (t_4 + (1 : Int)))) w11
 )
def F132_l1 (b_2 : Slc) (c_3 : Int) (t_4 : Int) (w5 : World) (K6 : Int × Int → World → Prop) (R : Int → World → Prop) : Prop :=
 if (decide (t_4 < (b_2.len : Int))) = true then (
  ex (IxA b_2 1 t_4) fun a7 =>
  ex (RdAt (tInt .u8) a7 w5) fun x8 =>
  lp (fun (s : Int × Int) w K => F132_l2 t_4 s.1 s.2 w K6 K R) ((bits .xor .u32 c_3 (IntKind.u32.wrap x8)), (0 : Int)) w5
 ) else (
  R c_3 w5
 )
def F132 (c_1 : Int) (b_2 : Slc) (w : World) (R : Int → World → Prop) : Prop :=
 lp (fun (s : Int × Int) w K => F132_l1 b_2 s.1 s.2 w K R) (c_1, (0 : Int)) w
theorem F132_ok {c_1 : Int} {b_2 : Slc} {w : World} {R : Int → World → Prop} (h : F132 c_1 b_2 w R) : cl Tryz.prog 132 [.int .u32 (c_1), tSlc.enc (b_2)] (tInt .u32) w R := by
 unfold F132 at h
 refine calls_start 29 Tryz.func132 rfl rfl (Nat.le_of_ble_eq_true rfl) <| wp_seq <| wp_text [0] rfl <| za 4 (.int .u32 ((0 : Int))) rfl rfl <| ro_nil <| wp_seq <| wp_seq <| wp_text [0, 1, 2] rfl <| zm 7 (tSlc.enc (b_2)) rfl rfl <| rv 8 rfl rfl rfl (q_len (s := b_2) rfl Tryz.underlying25 rfl) <| zm 9 (.int .i64 ((0 : Int))) rfl rfl <| ro_nil ?_
 refine wp_block <| loop_at (σ := Int × Int) (fr := fun g (s : Int × Int) => upd (upd (upd (upd (g) 7 (tSlc.enc (b_2))) 8 (.int .i64 ((b_2.len : Int)))) 0 (.int .u32 (s.1))) 9 (.int .i64 (s.2))) (s0 := (c_1, (0 : Int))) (upd_step (upd_step (upd_step (upd_step rfl rfl) rfl) rfl) rfl) h ?_
 rintro ⟨c_3, t_4⟩ g w5 K6 h
 unfold F132_l1 at h
 refine wp_seq <| wp_text [0] rfl <| rv 10 rfl rfl rfl (q_lss (a := t_4) (b := (b_2.len : Int)) rfl rfl rfl) <| ro_nil <| wp_seq <| zi h rfl (fun _ h => ?_) fun _ h => ?_
 ·refine wp_skip <| wp_seq <| wp_block <| wp_seq <| wp_text [0, 1, 2] rfl ?_
  obtain ⟨a7, ha7, h⟩ := h
  refine rv 11 rfl rfl rfl (q_indexAddr (s := b_2) (k := .i64) (i := t_4) rfl Tryz.underlying25 ok5 rfl rfl ha7) ?_
  obtain ⟨x8, hx8, h⟩ := h
  refine zl 12 hx8 ok5 rfl rfl <| za 6 (.int .u8 (x8)) rfl rfl <| ro_nil <| wp_seq <| wp_text [0, 1, 2, 3, 4] rfl <| zm 13 (.int .u32 (c_3)) rfl rfl <| zm 14 (.int .u8 (x8)) rfl rfl <| rv 15 rfl rfl rfl (q_cvtI (a := x8) rfl Tryz.underlying5 Tryz.underlying189 rfl) <| rv 16 rfl rfl rfl (q_xor (a := c_3) (b := (IntKind.u32.wrap x8)) rfl rfl rfl) <| za 0 (.int .u32 ((bits .xor .u32 c_3 (IntKind.u32.wrap x8)))) rfl rfl <| ro_nil <| wp_seq ?_
  refine wp_text [0] rfl <| zm 17 (.int .i64 ((0 : Int))) rfl rfl <| ro_nil <| wp_block <| loop_at (σ := Int × Int) (fr := fun g (s : Int × Int) => upd (upd (upd (upd (upd (g) 7 (tSlc.enc (b_2))) 8 (.int .i64 ((b_2.len : Int)))) 9 (.int .i64 (t_4))) 0 (.int .u32 (s.1))) 17 (.int .i64 (s.2))) (s0 := ((bits .xor .u32 c_3 (IntKind.u32.wrap x8)), (0 : Int))) (upd_step (upd_step (upd_step (upd_step (upd_step rfl rfl) rfl) rfl) rfl) rfl) h ?_
  rintro ⟨c_9, t_10⟩ g w11 K12 h
  unfold F132_l2 at h
  refine wp_seq <| wp_text [0] rfl <| rv 18 rfl rfl rfl (q_lss (a := t_10) (b := (8 : Int)) rfl rfl rfl) <| ro_nil <| wp_seq <| zi h rfl (fun _ h => ?_) fun _ h => ?_
  ·refine wp_skip <| wp_seq <| wp_block <| wp_text [0, 1, 2, 3, 4, 5, 6, 7] rfl <| zm 19 (.int .u32 (c_9)) rfl rfl ?_
   obtain ⟨d13, hd13, h⟩ := h
   refine rv 20 rfl rfl rfl (q_shr (a := c_9) (b := (1 : Int)) (r := d13) rfl rfl rfl hd13) <| zm 21 (.int .u32 (c_9)) rfl rfl <| rv 22 rfl rfl rfl (q_and (a := c_9) (b := (1 : Int)) rfl rfl rfl) <| rv 23 rfl rfl rfl (q_neg (a := (bits .and .u32 c_9 (1 : Int))) rfl rfl) <| rv 24 rfl rfl rfl (q_and (a := (IntKind.u32.wrap (0 - (bits .and .u32 c_9 (1 : Int))))) (b := (3988292384 : Int)) rfl rfl rfl) <| rv 25 rfl rfl rfl (q_xor (a := d13) (b := (bits .and .u32 (IntKind.u32.wrap (0 - (bits .and .u32 c_9 (1 : Int)))) (3988292384 : Int))) rfl rfl rfl) <| za 0 (.int .u32 ((bits .xor .u32 d13 (bits .and .u32 (IntKind.u32.wrap (0 - (bits .and .u32 c_9 (1 : Int)))) (3988292384 : Int))))) rfl rfl <| ro_nil <| wp_text [0, 1] rfl <| rv 26 rfl rfl rfl (q_add (a := t_10) (b := (1 : Int)) rfl rfl rfl) <| zm 17 (.int .i64 ((IntKind.i64.wrap (t_10 + (1 : Int))))) rfl rfl <| ro_nil ?_
   exact ⟨((bits .xor .u32 d13 (bits .and .u32 (IntKind.u32.wrap (0 - (bits .and .u32 c_9 (1 : Int)))) (3988292384 : Int))), (IntKind.i64.wrap (t_10 + (1 : Int)))), _, arr (upd_step (upd_step (upd_step (upd_step (upd_step rfl rfl) rfl) rfl) rfl) rfl), h⟩
  ·refine wp_exit <| wp_text [0, 1] rfl <| rv 27 rfl rfl rfl (q_add (a := t_4) (b := (1 : Int)) rfl rfl rfl) <| zm 9 (.int .i64 ((IntKind.i64.wrap (t_4 + (1 : Int))))) rfl rfl <| ro_nil ?_
   exact ⟨(c_9, (IntKind.i64.wrap (t_4 + (1 : Int)))), _, arr (upd_step (upd_step (upd_step (upd_step rfl rfl) rfl) rfl) rfl), h⟩
 ·refine wp_exit <| wp_seq <| wp_text [0, 1] rfl <| zm 28 (.int .u32 (c_3)) rfl rfl <| za 4 (.int .u32 (c_3)) rfl rfl <| ro_nil <| wp_ret ?_
  exact zr1 h rfl rfl
def F137 (c_1 : (Option Addr)) (at_2 : Int) (w : World) (R : Int → World → Prop) : Prop :=
 nw 165 tPtr c_1 w fun a3 w4 =>
 nw 2 (tInt .i64) at_2 w4 fun a5 w6 =>
 ex (RdAt tPtr a3 w6) fun x7 =>
 ex (NC x7) fun a8 =>
 ex (RdAt tSlc (a8.add 0) w6) fun x9 =>
 cl Tryz.prog 152 [.int .i64 ((x9.len : Int)), ((Fv.mk (.func 153) (List.toArray []) (List.toArray [.pointer (some a3), .pointer (some a5)]))).enc] (tInt .i64) w6 fun r11 w10 =>
 R r11 w10
theorem F137_ok {c_1 : (Option Addr)} {at_2 : Int} {w : World} {R : Int → World → Prop} (h : F137 c_1 at_2 w R) : cl Tryz.prog 137 [.pointer (c_1), .int .i64 (at_2)] (tInt .i64) w R := by
 unfold F137 at h
 refine calls_start 12 Tryz.func137 rfl rfl (Nat.le_of_ble_eq_true rfl) <| wp_seq <| wp_text [0, 1, 2] rfl ?_
 obtain ⟨a3, w4, ha3, hw4, h⟩ := nw_open h
 refine rv 2 rfl rfl rfl (q_box (u := c_1) rfl ok165 rfl ha3 hw4) ?_
 obtain ⟨a5, w6, ha5, hw6, h⟩ := nw_open h
 refine rv 3 rfl rfl rfl (q_box (u := at_2) rfl ok2 rfl ha5 hw6) <| za 4 (.int .i64 ((0 : Int))) rfl rfl <| ro_nil <| wp_seq <| wp_text [0, 1, 2, 3, 4, 5, 6, 7] rfl ?_
 obtain ⟨x7, hx7, h⟩ := h
 refine zl 5 hx7 ok165 rfl rfl ?_
 obtain ⟨a8, ha8, h⟩ := h
 refine zn 6 ha8 rfl rfl <| zf 7 a8 0 Tryz.underlying199 ok197 rfl rfl rfl ?_
 obtain ⟨x9, hx9, h⟩ := h
 refine zl 8 hx9 ok197 rfl rfl <| rv 9 rfl rfl rfl (q_len (s := x9) rfl Tryz.underlying197 rfl) <| rv 10 rfl rfl rfl (q_makeFunc (fn := .func 153) (va := []) (vc := [.pointer (some a3), .pointer (some a5)]) rfl rfl rfl) <| zc ent152 rfl rfl h fun r11 w10 h => za 4 (.int .i64 (r11)) rfl rfl <| ro_nil <| wp_ret ?_
 exact zr1 h rfl rfl
def F138_j2 (t_3 : Int) (sum_6 : Int) (w7 : World) (K5 : Int × Int → World → Prop) (R : (Int × Int) → World → Prop) : Prop :=
 K5 (sum_6, (IntKind.i64.wrap (t_3 + (1 : Int)))) w7
def F138_l1 (l_1 : Slc) (sum_2 : Int) (t_3 : Int) (w4 : World) (K5 : Int × Int → World → Prop) (R : (Int × Int) → World → Prop) : Prop :=
 if (decide (t_3 < (l_1.len : Int))) = true then (
  ex (IxA l_1 1 t_3) fun a8 =>
  ex (RdAt (tInt .i64) a8 w4) fun x9 =>
  cl Tryz.prog 54 [.int .i64 (x9)] (tInt .i64) w4 fun r11 w10 =>
  if (r11 != (0 : Int)) = true then (
   R ((0 : Int), (40 : Int)) w10
  ) else (
   if (decide (sum_2 ≤ (1000000000000000 : Int))) = true then (
    F138_j2 t_3 (IntKind.i64.wrap (sum_2 + x9)) w10 K5 R
   ) else (
    F138_j2 t_3 sum_2 w10 K5 R
   )
  )
 ) else (
  cl Tryz.prog 54 [.int .i64 (sum_2)] (tInt .i64) w4 fun r15 w14 =>
  if (r15 != (0 : Int)) = true then (
   R ((0 : Int), (40 : Int)) w14
  ) else (
   R (sum_2, (0 : Int)) w14
  )
 )
def F138 (l_1 : Slc) (w : World) (R : (Int × Int) → World → Prop) : Prop :=
 lp (fun (s : Int × Int) w K => F138_l1 l_1 s.1 s.2 w K R) ((0 : Int), (0 : Int)) w
theorem F138_ok {l_1 : Slc} {w : World} {R : (Int × Int) → World → Prop} (h : F138 l_1 w R) : cl Tryz.prog 138 [tSlc.enc (l_1)] (tTup2 (tInt .i64) (tInt .i64)) w R := by
 unfold F138 at h
 refine calls_start 26 Tryz.func138 rfl rfl (Nat.le_of_ble_eq_true rfl) <| wp_seq <| wp_text [0, 1] rfl <| za 2 (.int .i64 ((0 : Int))) rfl rfl <| za 3 (.int .i64 ((0 : Int))) rfl rfl <| ro_nil <| wp_seq <| wp_text [0] rfl <| za 4 (.int .i64 ((0 : Int))) rfl rfl <| ro_nil <| wp_seq <| wp_seq ?_
 refine wp_text [0, 1, 2] rfl <| zm 7 (tSlc.enc (l_1)) rfl rfl <| rv 8 rfl rfl rfl (q_len (s := l_1) rfl Tryz.underlying66 rfl) <| zm 9 (.int .i64 ((0 : Int))) rfl rfl <| ro_nil <| wp_block <| loop_at (σ := Int × Int) (fr := fun g (s : Int × Int) => upd (upd (upd (upd (g) 7 (tSlc.enc (l_1))) 8 (.int .i64 ((l_1.len : Int)))) 4 (.int .i64 (s.1))) 9 (.int .i64 (s.2))) (s0 := ((0 : Int), (0 : Int))) (upd_step (upd_step (upd_step (upd_step rfl rfl) rfl) rfl) rfl) h ?_
 rintro ⟨sum_2, t_3⟩ g w4 K5 h
 unfold F138_l1 at h
 refine wp_seq <| wp_text [0] rfl <| rv 10 rfl rfl rfl (q_lss (a := t_3) (b := (l_1.len : Int)) rfl rfl rfl) <| ro_nil <| wp_seq <| zi h rfl (fun _ h => ?_) fun _ h => ?_
 ·refine wp_skip <| seq_join (σ := Int) (J := fun (s : Int) w => F138_j2 t_3 s w K5 R) (fr := fun g (s : Int) => upd (upd (upd (upd (g) 7 (tSlc.enc (l_1))) 8 (.int .i64 ((l_1.len : Int)))) 9 (.int .i64 (t_3))) 4 (.int .i64 (s))) ?_ ?_
  ·rintro sum_6 g w7 h
   unfold F138_j2 at h
   refine wp_text [0, 1] rfl <| rv 21 rfl rfl rfl (q_add (a := t_3) (b := (1 : Int)) rfl rfl rfl) <| zm 9 (.int .i64 ((IntKind.i64.wrap (t_3 + (1 : Int))))) rfl rfl <| ro_nil ?_
   exact ⟨(sum_6, (IntKind.i64.wrap (t_3 + (1 : Int)))), _, arr (upd_step (upd_step (upd_step (upd_step rfl rfl) rfl) rfl) rfl), h⟩
  ·refine wp_block <| wp_seq <| wp_text [0, 1, 2] rfl ?_
   obtain ⟨a8, ha8, h⟩ := h
   refine rv 11 rfl rfl rfl (q_indexAddr (s := l_1) (k := .i64) (i := t_3) rfl Tryz.underlying66 ok2 rfl rfl ha8) ?_
   obtain ⟨x9, hx9, h⟩ := h
   refine zl 12 hx9 ok2 rfl rfl <| za 6 (.int .i64 (x9)) rfl rfl <| ro_nil <| wp_seq <| wp_seq <| wp_text [0, 1, 2] rfl <| zm 13 (.int .i64 (x9)) rfl rfl <| zc ent54 rfl rfl h fun r11 w10 h => rv 15 rfl rfl rfl (q_neq (a := r11) (b := (0 : Int)) rfl rfl rfl) <| ro_nil <| zi h rfl (fun _ h => ?_) fun _ h => ?_
   ·refine wp_seq <| wp_text [0, 1] rfl <| za 2 (.int .i64 ((0 : Int))) rfl rfl <| za 3 (.int .i64 ((40 : Int))) rfl rfl <| ro_nil <| wp_ret ?_
    exact zr2 h rfl rfl
   ·refine wp_skip <| wp_seq <| wp_text [0, 1] rfl <| zm 16 (.int .i64 (sum_2)) rfl rfl <| rv 17 rfl rfl rfl (q_leq (a := sum_2) (b := (1000000000000000 : Int)) rfl rfl rfl) <| ro_nil <| zi h rfl (fun _ h => ?_) fun _ h => ?_
    ·refine wp_text [0, 1, 2, 3] rfl <| zm 18 (.int .i64 (sum_2)) rfl rfl <| zm 19 (.int .i64 (x9)) rfl rfl <| rv 20 rfl rfl rfl (q_add (a := sum_2) (b := x9) rfl rfl rfl) <| za 4 (.int .i64 ((IntKind.i64.wrap (sum_2 + x9)))) rfl rfl <| ro_nil ?_
     exact ⟨((IntKind.i64.wrap (sum_2 + x9))), _, arr (upd_step (upd_step (upd_step (upd_step rfl rfl) rfl) rfl) rfl), h⟩
    ·refine wp_skip ?_
     exact ⟨(sum_2), _, arr (upd_step (upd_step (upd_step (upd_step rfl rfl) rfl) rfl) rfl), h⟩
 ·refine wp_exit <| wp_seq <| wp_seq <| wp_text [0, 1, 2] rfl <| zm 22 (.int .i64 (sum_2)) rfl rfl <| zc ent54 rfl rfl h fun r15 w14 h => rv 24 rfl rfl rfl (q_neq (a := r15) (b := (0 : Int)) rfl rfl rfl) <| ro_nil <| zi h rfl (fun _ h => ?_) fun _ h => ?_
  ·refine wp_seq <| wp_text [0, 1] rfl <| za 2 (.int .i64 ((0 : Int))) rfl rfl <| za 3 (.int .i64 ((40 : Int))) rfl rfl <| ro_nil <| wp_ret ?_
   exact zr2 h rfl rfl
  ·refine wp_skip <| wp_seq <| wp_text [0, 1, 2] rfl <| zm 25 (.int .i64 (sum_2)) rfl rfl <| za 2 (.int .i64 (sum_2)) rfl rfl <| za 3 (.int .i64 ((0 : Int))) rfl rfl <| ro_nil <| wp_ret ?_
   exact zr2 h rfl rfl
def F139_j2 (n_1 : Int) (r9 : (Nat × Int)) (d12 : Int) (r18 : (Int × Int)) (t_19 : Bool) (w20 : World) (R : (Int × Int) → World → Prop) : Prop :=
 if t_19 = true then (
  R ((0 : Int), (11 : Int)) w20
 ) else (
  ex (Shift (IntKind.u64.wrap (IntKind.i64.wrap (r9.2 - (53 : Int)))) (IntKind.u64.wrap (r18.2 * 2 ^ (min ((IntKind.u64.wrap (IntKind.i64.wrap (r9.2 - (53 : Int))))).toNat IntKind.u64.bits)))) fun d21 =>
  cl Tryz.prog 158 [.bool ((!((decide (n_1 < (0 : Int))) == (decide (d12 < (0 : Int)))))), .int .u64 (d21)] (tTup2 (tInt .i64) (tInt .i64)) w20 fun r23 w22 =>
  R (r23.1, r23.2) w22
 )
def F139_j3 (n_1 : Int) (d12 : Int) (q_30 : Int) (w31 : World) (R : (Int × Int) → World → Prop) : Prop :=
 cl Tryz.prog 158 [.bool ((!((decide (n_1 < (0 : Int))) == (decide (d12 < (0 : Int)))))), .int .u64 (q_30)] (tTup2 (tInt .i64) (tInt .i64)) w31 fun r33 w32 =>
 R (r33.1, r33.2) w32
def F139_j1 (n_1 : Int) (f_2 : Nat) (t_5 : Bool) (w6 : World) (R : (Int × Int) → World → Prop) : Prop :=
 if t_5 = true then (
  if (n_1 == (0 : Int)) = true then (
   R ((0 : Int), (10 : Int)) w6
  ) else (
   R ((0 : Int), (11 : Int)) w6
  )
 ) else (
  cl Tryz.prog 154 [.float .f64 (f_2)] (tTup2 tFlt (tInt .i64)) w6 fun r9 w8 =>
  cl Tryz.prog 155 [.float .f64 (r9.1), .int .i64 ((53 : Int))] tFlt w8 fun r11 w10 =>
  ex (F2I .i64 r11) fun d12 =>
  cl Tryz.prog 157 [.int .i64 (n_1)] (tInt .u64) w10 fun r14 w13 =>
  cl Tryz.prog 157 [.int .i64 (d12)] (tInt .u64) w13 fun r16 w15 =>
  cl Tryz.prog 156 [.int .u64 (r14), .int .u64 (r16)] (tTup2 (tInt .u64) (tInt .u64)) w15 fun r18 w17 =>
  if ((r18.1 == (0 : Int)) && (r18.2 == (0 : Int))) = true then (
   R ((0 : Int), (0 : Int)) w17
  ) else (
   if (decide ((IntKind.i64.wrap (r9.2 - (53 : Int))) ≥ (0 : Int))) = true then (
    if ((r18.1 != (0 : Int)) || (decide ((IntKind.i64.wrap (r9.2 - (53 : Int))) ≥ (64 : Int)))) = true then (
     F139_j2 n_1 r9 d12 r18 true w17 R
    ) else (
     cl Tryz.prog 151 [.int .u64 (r18.2)] (tInt .i64) w17 fun r27 w26 =>
     F139_j2 n_1 r9 d12 r18 (decide ((IntKind.i64.wrap (r27 + (IntKind.i64.wrap (r9.2 - (53 : Int))))) > (64 : Int))) w26 R
    )
   ) else (
    cl Tryz.prog 159 [.int .u64 (r18.1), .int .u64 (r18.2), .int .u64 ((IntKind.u64.wrap (IntKind.i64.wrap (0 - (IntKind.i64.wrap (r9.2 - (53 : Int)))))))] (tTup3 (tInt .u64) tBool tBool) w17 fun r29 w28 =>
    if ((!r29.2.2) || (((!((decide (n_1 < (0 : Int))) == (decide (d12 < (0 : Int))))) && r29.2.1) && (decide (r29.1 ≥ (9223372036854775808 : Int))))) = true then (
     R ((0 : Int), (11 : Int)) w28
    ) else (
     if ((!((decide (n_1 < (0 : Int))) == (decide (d12 < (0 : Int))))) && r29.2.1) = true then (
      F139_j3 n_1 d12 (IntKind.u64.wrap (r29.1 + (1 : Int))) w28 R
     ) else (
      F139_j3 n_1 d12 r29.1 w28 R
     )
    )
   )
  )
 )
def F139 (n_1 : Int) (f_2 : Nat) (w : World) (R : (Int × Int) → World → Prop) : Prop :=
 cl Tryz.prog 64 [.float .f64 (f_2)] (tInt .i64) w fun r4 w3 =>
 if (r4 == (0 : Int)) = true then (
  R ((0 : Int), (10 : Int)) w3
 ) else (
  if (r4 == (1 : Int)) = true then (
   F139_j1 n_1 f_2 (r4 == (1 : Int)) w3 R
  ) else (
   F139_j1 n_1 f_2 (r4 == (6 : Int)) w3 R
  )
 )
theorem F139_ok {n_1 : Int} {f_2 : Nat} {w : World} {R : (Int × Int) → World → Prop} (h : F139 n_1 f_2 w R) : cl Tryz.prog 139 [.int .i64 (n_1), .float .f64 (f_2)] (tTup2 (tInt .i64) (tInt .i64)) w R := by
 unfold F139 at h
 refine calls_start 110 Tryz.func139 rfl rfl (Nat.le_of_ble_eq_true rfl) <| wp_seq <| wp_text [0, 1] rfl <| za 4 (.int .i64 ((0 : Int))) rfl rfl <| za 5 (.int .i64 ((0 : Int))) rfl rfl <| ro_nil <| wp_seq <| wp_seq <| wp_text [0, 1] rfl <| zm 16 (.float .f64 (f_2)) rfl rfl <| zc ent64 rfl rfl h fun r4 w3 h => ro_nil ?_
 refine wp_block <| wp_seq <| wp_text [0, 1] rfl <| rv 19 rfl rfl rfl (q_eql (a := r4) (b := (0 : Int)) rfl rfl rfl) <| za 18 (.bool ((r4 == (0 : Int)))) rfl rfl <| ro_nil <| zi h rfl (fun _ h => ?_) fun _ h => ?_
 ·refine wp_seq <| wp_text [0, 1] rfl <| za 4 (.int .i64 ((0 : Int))) rfl rfl <| za 5 (.int .i64 ((10 : Int))) rfl rfl <| ro_nil <| wp_ret ?_
  exact zr2 h rfl rfl
 ·refine seq_join (σ := Bool) (J := fun (s : Bool) w => F139_j1 n_1 f_2 s w R) (fr := fun g (s : Bool) => upd (upd (upd (g) 0 (.int .i64 (n_1))) 1 (.float .f64 (f_2))) 20 (.bool (s))) ?_ ?_
  ·rintro t_5 g w6 h
   unfold F139_j1 at h
   refine zi h rfl (fun _ h => ?_) fun _ h => ?_
   ·refine wp_seq <| wp_seq <| wp_text [0, 1] rfl <| zm 23 (.int .i64 (n_1)) rfl rfl <| rv 24 rfl rfl rfl (q_eql (a := n_1) (b := (0 : Int)) rfl rfl rfl) <| ro_nil <| zi h rfl (fun _ h => ?_) fun _ h => ?_
    ·refine wp_seq <| wp_text [0, 1] rfl <| za 4 (.int .i64 ((0 : Int))) rfl rfl <| za 5 (.int .i64 ((10 : Int))) rfl rfl <| ro_nil <| wp_ret ?_
     exact zr2 h rfl rfl
    ·refine wp_skip <| wp_seq <| wp_text [0, 1] rfl <| za 4 (.int .i64 ((0 : Int))) rfl rfl <| za 5 (.int .i64 ((11 : Int))) rfl rfl <| ro_nil <| wp_ret ?_
     exact zr2 h rfl rfl
   ·refine wp_skip <| wp_seq <| wp_text [0, 1, 2, 3, 4, 5, 6] rfl <| zm 26 (.float .f64 (f_2)) rfl rfl <| zc ent154 rfl rfl h fun r9 w8 h => zm 25 ((tTup2 tFlt (tInt .i64)).enc (r9)) rfl rfl <| ze 28 (.float .f64 (r9.1)) rfl rfl rfl <| ze 29 (.int .i64 (r9.2)) rfl rfl rfl <| za 6 (.float .f64 (r9.1)) rfl rfl <| za 7 (.int .i64 (r9.2)) rfl rfl <| ro_nil <| wp_seq ?_
    refine wp_text [0, 1, 2, 3, 4, 5, 6] rfl <| zm 30 (.float .f64 (r9.1)) rfl rfl <| zc ent155 rfl rfl h fun r11 w10 h => ?_
    obtain ⟨d12, hd12, h⟩ := h
    refine rv 32 rfl rfl rfl (q_cvtFI (b := r11) (m := d12) rfl Tryz.underlying40 Tryz.underlying2 rfl hd12) <| zm 33 (.int .i64 (r9.2)) rfl rfl <| rv 34 rfl rfl rfl (q_sub (a := r9.2) (b := (53 : Int)) rfl rfl rfl) <| za 8 (.int .i64 (d12)) rfl rfl <| za 9 (.int .i64 ((IntKind.i64.wrap (r9.2 - (53 : Int))))) rfl rfl <| ro_nil <| wp_seq <| wp_text [0, 1, 2, 3, 4, 5] rfl <| zm 35 (.int .i64 (n_1)) rfl rfl <| rv 36 rfl rfl rfl (q_lss (a := n_1) (b := (0 : Int)) rfl rfl rfl) <| zm 37 (.int .i64 (d12)) rfl rfl <| rv 38 rfl rfl rfl (q_lss (a := d12) (b := (0 : Int)) rfl rfl rfl) ?_
    refine rv 39 rfl rfl rfl (q_neB (a := (decide (n_1 < (0 : Int)))) (b := (decide (d12 < (0 : Int)))) rfl Tryz.underlying4 rfl rfl) <| za 10 (.bool ((!((decide (n_1 < (0 : Int))) == (decide (d12 < (0 : Int))))))) rfl rfl <| ro_nil <| wp_seq <| wp_text [0, 1, 2, 3, 4, 5, 6, 7, 8, 9] rfl <| zm 41 (.int .i64 (n_1)) rfl rfl <| zc ent157 rfl rfl h fun r14 w13 h => zm 43 (.int .i64 (d12)) rfl rfl <| zc ent157 rfl rfl h fun r16 w15 h => zc ent156 rfl rfl h fun r18 w17 h => zm 40 ((tTup2 (tInt .u64) (tInt .u64)).enc (r18)) rfl rfl <| ze 46 (.int .u64 (r18.1)) rfl rfl rfl ?_
    refine ze 47 (.int .u64 (r18.2)) rfl rfl rfl <| za 11 (.int .u64 (r18.1)) rfl rfl <| za 12 (.int .u64 (r18.2)) rfl rfl <| ro_nil <| wp_seq <| wp_seq <| wp_text [0, 1, 2, 3, 4, 5] rfl <| zm 48 (.int .u64 (r18.1)) rfl rfl <| rv 49 rfl rfl rfl (q_eql (a := r18.1) (b := (0 : Int)) rfl rfl rfl) <| zm 50 (.bool ((r18.1 == (0 : Int)))) rfl rfl <| ro_gval (g := (r18.1 == (0 : Int))) (d := (some 51)) rfl (.yes 2 50 true (r18.1 == (0 : Int)) rfl rfl rfl rfl) rfl (fun hg => q_move (v := .int .u64 (r18.2)) rfl rfl) <| ro_gval (g := (r18.1 == (0 : Int))) (d := (some 52)) rfl (.yes 2 50 true (r18.1 == (0 : Int)) rfl rfl rfl rfl) rfl (fun hg => q_eql (k := .u64) (a := r18.2) (b := (0 : Int)) rfl (gvb_yes hg) rfl) ?_
    refine rv 53 rfl rfl rfl (q_pickGT (a := (r18.1 == (0 : Int))) (b := (r18.2 == (0 : Int))) rfl rfl rfl rfl) <| ro_nil <| zi h rfl (fun _ h => ?_) fun _ h => ?_
    ·refine wp_seq <| wp_text [0, 1] rfl <| za 4 (.int .i64 ((0 : Int))) rfl rfl <| za 5 (.int .i64 ((0 : Int))) rfl rfl <| ro_nil <| wp_ret ?_
     exact zr2 h rfl rfl
    ·refine wp_skip <| wp_seq <| wp_seq <| wp_text [0, 1] rfl <| zm 54 (.int .i64 ((IntKind.i64.wrap (r9.2 - (53 : Int))))) rfl rfl <| rv 55 rfl rfl rfl (q_geq (a := (IntKind.i64.wrap (r9.2 - (53 : Int)))) (b := (0 : Int)) rfl rfl rfl) <| ro_nil <| zi h rfl (fun _ h => ?_) fun _ h => ?_
     ·refine wp_seq <| wp_seq <| wp_text [0, 1, 2, 3, 4, 5, 6, 7, 8, 9, 10, 11, 12] rfl <| zm 56 (.int .u64 (r18.1)) rfl rfl <| rv 57 rfl rfl rfl (q_neq (a := r18.1) (b := (0 : Int)) rfl rfl rfl) <| zm 58 (.bool ((r18.1 != (0 : Int)))) rfl rfl <| ro_gval (g := (!(r18.1 != (0 : Int)))) (d := (some 59)) rfl (.no 2 58 true (r18.1 != (0 : Int)) rfl rfl rfl rfl) rfl (fun hg => q_move (v := .int .i64 ((IntKind.i64.wrap (r9.2 - (53 : Int))))) rfl rfl) <| ro_gval (g := (!(r18.1 != (0 : Int)))) (d := (some 60)) rfl (.no 2 58 true (r18.1 != (0 : Int)) rfl rfl rfl rfl) rfl (fun hg => q_geq (k := .i64) (a := (IntKind.i64.wrap (r9.2 - (53 : Int)))) (b := (64 : Int)) rfl (gvb_yes hg) rfl) <| rv 61 rfl rfl rfl (q_pickGF (a := (r18.1 != (0 : Int))) (c := (decide ((IntKind.i64.wrap (r9.2 - (53 : Int))) ≥ (64 : Int)))) rfl rfl rfl rfl) <| zm 62 (.bool (((r18.1 != (0 : Int)) || (decide ((IntKind.i64.wrap (r9.2 - (53 : Int))) ≥ (64 : Int)))))) rfl rfl <| ro_join (σ := Bool) (J := fun (s : Bool) w => F139_j2 n_1 r9 d12 r18 s w R) (fr := fun g (s : Bool) => upd (upd (upd (upd (g) 9 (.int .i64 ((IntKind.i64.wrap (r9.2 - (53 : Int)))))) 10 (.bool ((!((decide (n_1 < (0 : Int))) == (decide (d12 < (0 : Int)))))))) 12 (.int .u64 (r18.2))) 68 (.bool (s))) [7, 8, 9, 10, 11, 12] [] ?_ ?_
      ·rintro t_19 g w20 h
       unfold F139_j2 at h
       refine ro_nil <| zi h rfl (fun _ h => ?_) fun _ h => ?_
       ·refine wp_seq <| wp_text [0, 1] rfl <| za 4 (.int .i64 ((0 : Int))) rfl rfl <| za 5 (.int .i64 ((11 : Int))) rfl rfl <| ro_nil <| wp_ret ?_
        exact zr2 h rfl rfl
       ·refine wp_skip <| wp_seq <| wp_text [0, 1, 2, 3, 4, 5, 6, 7, 8, 9] rfl <| zm 69 (.bool ((!((decide (n_1 < (0 : Int))) == (decide (d12 < (0 : Int))))))) rfl rfl <| zm 70 (.int .u64 (r18.2)) rfl rfl <| zm 71 (.int .i64 ((IntKind.i64.wrap (r9.2 - (53 : Int))))) rfl rfl <| rv 72 rfl rfl rfl (q_cvtI (a := (IntKind.i64.wrap (r9.2 - (53 : Int)))) rfl Tryz.underlying3 Tryz.underlying175 rfl) ?_
        obtain ⟨d21, hd21, h⟩ := h
        refine rv 73 rfl rfl rfl (q_shl (a := r18.2) (b := (IntKind.u64.wrap (IntKind.i64.wrap (r9.2 - (53 : Int))))) (r := d21) rfl rfl rfl hd21) <| zc ent158 rfl rfl h fun r23 w22 h => ze 75 (.int .i64 (r23.1)) rfl rfl rfl <| ze 76 (.int .i64 (r23.2)) rfl rfl rfl <| za 4 (.int .i64 (r23.1)) rfl rfl <| za 5 (.int .i64 (r23.2)) rfl rfl <| ro_nil <| wp_ret ?_
        exact zr2 h rfl rfl
      ·refine ro_if (b := ((r18.1 != (0 : Int)) || (decide ((IntKind.i64.wrap (r9.2 - (53 : Int))) ≥ (64 : Int))))) h (fun hb25 h => ?_) (fun hb25 h => ?_)
       ·refine ro_bar (d := (some 63)) rfl (.by_ 6 false 62 ((r18.1 != (0 : Int)) || (decide ((IntKind.i64.wrap (r9.2 - (53 : Int))) ≥ (64 : Int)))) rfl rfl rfl hb25) rfl <| ro_bar (d := (some 64)) rfl (.by_ 6 false 62 ((r18.1 != (0 : Int)) || (decide ((IntKind.i64.wrap (r9.2 - (53 : Int))) ≥ (64 : Int)))) rfl rfl rfl hb25) rfl <| ro_bar (d := (some 65)) rfl (.by_ 6 false 62 ((r18.1 != (0 : Int)) || (decide ((IntKind.i64.wrap (r9.2 - (53 : Int))) ≥ (64 : Int)))) rfl rfl rfl hb25) rfl <| ro_bar (d := (some 66)) rfl (.by_ 6 false 62 ((r18.1 != (0 : Int)) || (decide ((IntKind.i64.wrap (r9.2 - (53 : Int))) ≥ (64 : Int)))) rfl rfl rfl hb25) rfl <| ro_bar (d := (some 67)) rfl (.by_ 6 false 62 ((r18.1 != (0 : Int)) || (decide ((IntKind.i64.wrap (r9.2 - (53 : Int))) ≥ (64 : Int)))) rfl rfl rfl hb25) rfl <| rv 68 rfl rfl rfl (q_pickT (v := .bool (true)) (b := ((r18.1 != (0 : Int)) || (decide ((IntKind.i64.wrap (r9.2 - (53 : Int))) ≥ (64 : Int))))) rfl rfl hb25 rfl) <| ro_nil ?_
        exact ⟨(true), _, arr (upd_step (upd_step (upd_step (upd_step rfl rfl) rfl) rfl) rfl), h⟩
       ·refine ro_val (d := (some 63)) rfl (.by_ 6 false 62 ((r18.1 != (0 : Int)) || (decide ((IntKind.i64.wrap (r9.2 - (53 : Int))) ≥ (64 : Int)))) rfl rfl rfl hb25) rfl (q_move (v := .int .u64 (r18.2)) rfl rfl) <| ro_wp rfl (.by_ 6 false 62 ((r18.1 != (0 : Int)) || (decide ((IntKind.i64.wrap (r9.2 - (53 : Int))) ≥ (64 : Int)))) rfl rfl rfl hb25) (wp_cl (d := (some 64)) rfl (q_call (k := 151) (l := [.int .u64 (r18.2)]) rfl ent151 rfl) h ?_)
        intro r27 w26 h
        refine ro_val (d := (some 65)) rfl (.by_ 6 false 62 ((r18.1 != (0 : Int)) || (decide ((IntKind.i64.wrap (r9.2 - (53 : Int))) ≥ (64 : Int)))) rfl rfl rfl hb25) rfl (q_move (v := .int .i64 ((IntKind.i64.wrap (r9.2 - (53 : Int))))) rfl rfl) <| ro_val (d := (some 66)) rfl (.by_ 6 false 62 ((r18.1 != (0 : Int)) || (decide ((IntKind.i64.wrap (r9.2 - (53 : Int))) ≥ (64 : Int)))) rfl rfl rfl hb25) rfl (q_add (a := r27) (b := (IntKind.i64.wrap (r9.2 - (53 : Int)))) rfl rfl rfl) <| ro_val (d := (some 67)) rfl (.by_ 6 false 62 ((r18.1 != (0 : Int)) || (decide ((IntKind.i64.wrap (r9.2 - (53 : Int))) ≥ (64 : Int)))) rfl rfl rfl hb25) rfl (q_gtr (a := (IntKind.i64.wrap (r27 + (IntKind.i64.wrap (r9.2 - (53 : Int)))))) (b := (64 : Int)) rfl rfl rfl) <| rv 68 rfl rfl rfl (q_pickF (v := .bool ((decide ((IntKind.i64.wrap (r27 + (IntKind.i64.wrap (r9.2 - (53 : Int))))) > (64 : Int))))) (b := ((r18.1 != (0 : Int)) || (decide ((IntKind.i64.wrap (r9.2 - (53 : Int))) ≥ (64 : Int))))) rfl rfl hb25 rfl) <| ro_nil ?_
        exact ⟨((decide ((IntKind.i64.wrap (r27 + (IntKind.i64.wrap (r9.2 - (53 : Int))))) > (64 : Int)))), _, arr (upd_step (upd_step (upd_step (upd_step rfl rfl) rfl) rfl) rfl), h⟩
     ·refine wp_skip <| wp_seq <| wp_text [0, 1, 2, 3, 4, 5, 6, 7, 8, 9, 10, 11, 12] rfl <| zm 78 (.int .u64 (r18.1)) rfl rfl <| zm 79 (.int .u64 (r18.2)) rfl rfl <| zm 80 (.int .i64 ((IntKind.i64.wrap (r9.2 - (53 : Int))))) rfl rfl <| rv 81 rfl rfl rfl (q_neg (a := (IntKind.i64.wrap (r9.2 - (53 : Int)))) rfl rfl) <| rv 82 rfl rfl rfl (q_cvtI (a := (IntKind.i64.wrap (0 - (IntKind.i64.wrap (r9.2 - (53 : Int)))))) rfl Tryz.underlying3 Tryz.underlying175 rfl) <| zc ent159 rfl rfl h fun r29 w28 h => zm 77 ((tTup3 (tInt .u64) tBool tBool).enc (r29)) rfl rfl <| ze 84 (.int .u64 (r29.1)) rfl rfl rfl <| ze 85 (.bool (r29.2.1)) rfl rfl rfl ?_
      refine ze 86 (.bool (r29.2.2)) rfl rfl rfl <| za 13 (.int .u64 (r29.1)) rfl rfl <| za 14 (.bool (r29.2.1)) rfl rfl <| za 15 (.bool (r29.2.2)) rfl rfl <| ro_nil <| wp_seq <| wp_seq <| wp_text [0, 1, 2, 3, 4, 5, 6, 7, 8, 9, 10, 11] rfl <| zm 87 (.bool (r29.2.2)) rfl rfl <| rv 88 rfl rfl rfl (q_not (b := r29.2.2) rfl rfl) <| zm 89 (.bool ((!r29.2.2))) rfl rfl <| ro_gval (g := (!(!r29.2.2))) (d := (some 90)) rfl (.no 2 89 true (!r29.2.2) rfl rfl rfl rfl) rfl (fun hg => q_move (v := .bool ((!((decide (n_1 < (0 : Int))) == (decide (d12 < (0 : Int))))))) rfl rfl) ?_
      refine ro_gval (g := (!(!r29.2.2))) (d := (some 91)) rfl (.no 2 89 true (!r29.2.2) rfl rfl rfl rfl) rfl (fun hg => q_move (v := .bool ((!((decide (n_1 < (0 : Int))) == (decide (d12 < (0 : Int))))))) rfl (gvb_yes hg)) <| ro_gval (g := ((!(!r29.2.2)) && (!((decide (n_1 < (0 : Int))) == (decide (d12 < (0 : Int))))))) (d := (some 92)) rfl (.yes 4 91 (!(!r29.2.2)) (!((decide (n_1 < (0 : Int))) == (decide (d12 < (0 : Int))))) rfl rfl rfl rfl) rfl (fun hg => q_move (v := .bool (r29.2.1)) rfl rfl) <| ro_gval (g := (!(!r29.2.2))) (d := (some 93)) rfl (.no 2 89 true (!r29.2.2) rfl rfl rfl rfl) rfl (fun hg => q_pickNT (g0 := (!(!r29.2.2))) (a := (!((decide (n_1 < (0 : Int))) == (decide (d12 < (0 : Int)))))) (b := r29.2.1) hg rfl rfl rfl rfl) <| ro_gval (g := (!(!r29.2.2))) (d := (some 94)) rfl (.no 2 89 true (!r29.2.2) rfl rfl rfl rfl) rfl (fun hg => q_move (v := .bool (((!((decide (n_1 < (0 : Int))) == (decide (d12 < (0 : Int))))) && r29.2.1))) rfl (gvb_yes hg)) <| ro_gval (g := ((!(!r29.2.2)) && ((!((decide (n_1 < (0 : Int))) == (decide (d12 < (0 : Int))))) && r29.2.1))) (d := (some 95)) rfl (.yes 7 94 (!(!r29.2.2)) ((!((decide (n_1 < (0 : Int))) == (decide (d12 < (0 : Int))))) && r29.2.1) rfl rfl rfl rfl) rfl (fun hg => q_move (v := .int .u64 (r29.1)) rfl rfl) <| ro_gval (g := ((!(!r29.2.2)) && ((!((decide (n_1 < (0 : Int))) == (decide (d12 < (0 : Int))))) && r29.2.1))) (d := (some 96)) rfl (.yes 7 94 (!(!r29.2.2)) ((!((decide (n_1 < (0 : Int))) == (decide (d12 < (0 : Int))))) && r29.2.1) rfl rfl rfl rfl) rfl (fun hg => q_geq (k := .u64) (a := r29.1) (b := (9223372036854775808 : Int)) rfl (gvb_yes hg) rfl) <| ro_gval (g := (!(!r29.2.2))) (d := (some 97)) rfl (.no 2 89 true (!r29.2.2) rfl rfl rfl rfl) rfl (fun hg => q_pickNT (g0 := (!(!r29.2.2))) (a := ((!((decide (n_1 < (0 : Int))) == (decide (d12 < (0 : Int))))) && r29.2.1)) (b := (decide (r29.1 ≥ (9223372036854775808 : Int)))) hg rfl rfl rfl rfl) <| rv 98 rfl rfl rfl (q_pickGF (a := (!r29.2.2)) (c := (((!((decide (n_1 < (0 : Int))) == (decide (d12 < (0 : Int))))) && r29.2.1) && (decide (r29.1 ≥ (9223372036854775808 : Int))))) rfl rfl rfl rfl) <| ro_nil <| zi h rfl (fun _ h => ?_) fun _ h => ?_
      ·refine wp_seq <| wp_text [0, 1] rfl <| za 4 (.int .i64 ((0 : Int))) rfl rfl <| za 5 (.int .i64 ((11 : Int))) rfl rfl <| ro_nil <| wp_ret ?_
       exact zr2 h rfl rfl
      ·refine wp_skip <| seq_join (σ := Int) (J := fun (s : Int) w => F139_j3 n_1 d12 s w R) (fr := fun g (s : Int) => upd (upd (g) 10 (.bool ((!((decide (n_1 < (0 : Int))) == (decide (d12 < (0 : Int)))))))) 13 (.int .u64 (s))) ?_ ?_
       ·rintro q_30 g w31 h
        unfold F139_j3 at h
        refine wp_seq <| wp_text [0, 1, 2, 3, 4, 5, 6] rfl <| zm 105 (.bool ((!((decide (n_1 < (0 : Int))) == (decide (d12 < (0 : Int))))))) rfl rfl <| zm 106 (.int .u64 (q_30)) rfl rfl <| zc ent158 rfl rfl h fun r33 w32 h => ze 108 (.int .i64 (r33.1)) rfl rfl rfl <| ze 109 (.int .i64 (r33.2)) rfl rfl rfl <| za 4 (.int .i64 (r33.1)) rfl rfl <| za 5 (.int .i64 (r33.2)) rfl rfl <| ro_nil <| wp_ret ?_
        exact zr2 h rfl rfl
       ·refine wp_seq <| wp_text [0, 1, 2, 3] rfl <| zm 99 (.bool ((!((decide (n_1 < (0 : Int))) == (decide (d12 < (0 : Int))))))) rfl rfl <| zm 100 (.bool ((!((decide (n_1 < (0 : Int))) == (decide (d12 < (0 : Int))))))) rfl rfl <| ro_gval (g := (!((decide (n_1 < (0 : Int))) == (decide (d12 < (0 : Int)))))) (d := (some 101)) rfl (.yes 1 100 true (!((decide (n_1 < (0 : Int))) == (decide (d12 < (0 : Int))))) rfl rfl rfl rfl) rfl (fun hg => q_move (v := .bool (r29.2.1)) rfl rfl) <| rv 102 rfl rfl rfl (q_pickGT (a := (!((decide (n_1 < (0 : Int))) == (decide (d12 < (0 : Int)))))) (b := r29.2.1) rfl rfl rfl rfl) <| ro_nil <| zi h rfl (fun _ h => ?_) fun _ h => ?_
        ·refine wp_text [0, 1, 2] rfl <| zm 103 (.int .u64 (r29.1)) rfl rfl <| rv 104 rfl rfl rfl (q_add (a := r29.1) (b := (1 : Int)) rfl rfl rfl) <| za 13 (.int .u64 ((IntKind.u64.wrap (r29.1 + (1 : Int))))) rfl rfl <| ro_nil ?_
         exact ⟨((IntKind.u64.wrap (r29.1 + (1 : Int)))), _, arr (upd_step (upd_step rfl rfl) rfl), h⟩
        ·refine wp_skip ?_
         exact ⟨(r29.1), _, arr (upd_step (upd_step rfl rfl) rfl), h⟩
  ·refine wp_seq <| wp_text [0, 1] rfl <| rv 21 rfl rfl rfl (q_eql (a := r4) (b := (1 : Int)) rfl rfl rfl) <| za 20 (.bool ((r4 == (1 : Int)))) rfl rfl <| ro_nil <| zi h rfl (fun _ h => ?_) fun _ h => ?_
   ·refine wp_skip ?_
    exact ⟨((r4 == (1 : Int))), _, arr (upd_step (upd_step (upd_step rfl rfl) rfl) rfl), h⟩
   ·refine wp_text [0, 1] rfl <| rv 22 rfl rfl rfl (q_eql (a := r4) (b := (6 : Int)) rfl rfl rfl) <| za 20 (.bool ((r4 == (6 : Int)))) rfl rfl <| ro_nil ?_
    exact ⟨((r4 == (6 : Int))), _, arr (upd_step (upd_step (upd_step rfl rfl) rfl) rfl), h⟩
def F140 (c_1 : (Option Addr)) (w : World) (R : Slc → World → Prop) : Prop :=
 ex (NC c_1) fun a2 =>
 ex (RdAt tSlc (a2.add 0) w) fun x3 =>
 mkS 118 T117 16 Z117 (x3.len : Int) (x3.len : Int) w fun r5 w4 =>
 ex (RdAt tSlc (a2.add 0) w4) fun x6 =>
 cpy T117 2 r5 x6 w4 fun r8 w7 =>
 R r5 w7
theorem F140_ok {c_1 : (Option Addr)} {w : World} {R : Slc → World → Prop} (h : F140 c_1 w R) : cl Tryz.prog 140 [.pointer (c_1)] tSlc w R := by
 unfold F140 at h
 refine calls_start 17 Tryz.func140 rfl rfl (Nat.le_of_ble_eq_true rfl) <| wp_seq <| wp_text [0] rfl <| za 2 (tSlc.enc ((⟨none, 0, 0⟩ : Slc))) rfl rfl <| ro_nil <| wp_seq <| wp_text [0, 1, 2, 3, 4, 5, 6] rfl <| zm 4 (.pointer (c_1)) rfl rfl ?_
 obtain ⟨a2, ha2, h⟩ := h
 refine zn 5 ha2 rfl rfl <| zf 6 a2 0 Tryz.underlying199 ok197 rfl rfl rfl ?_
 obtain ⟨x3, hx3, h⟩ := h
 refine zl 7 hx3 ok197 rfl rfl <| rv 8 rfl rfl rfl (q_len (s := x3) rfl Tryz.underlying197 rfl) <| ro_wp rfl (.free rfl) (wp_mkS (T := T117) (z := Z117) (l := (x3.len : Int)) (c := (x3.len : Int)) (d := (some 9)) rfl rfl Tryz.underlying197 ok118 inf118 rfl rfl h ?_)
 intro r5 w4 h
 refine za 3 (tSlc.enc (r5)) rfl rfl <| ro_nil <| wp_seq <| wp_text [0, 1, 2, 3, 4, 5] rfl <| zm 10 (tSlc.enc (r5)) rfl rfl <| zm 11 (.pointer (c_1)) rfl rfl <| zn 12 ha2 rfl rfl <| zf 13 a2 0 Tryz.underlying199 ok197 rfl rfl rfl ?_
 obtain ⟨x6, hx6, h⟩ := h
 refine zl 14 hx6 ok197 rfl rfl <| ro_wp rfl (.free rfl) (wp_cpy (T := T117) (s := r5) (b := x6) (d := (some 15)) rfl rfl Tryz.underlying197 ok118 rfl rfl h ?_)
 intro r8 w7 h
 refine ro_nil <| wp_seq <| wp_text [0, 1] rfl <| zm 16 (tSlc.enc (r5)) rfl rfl <| za 2 (tSlc.enc (r5)) rfl rfl <| ro_nil <| wp_ret ?_
 exact zr1 h rfl rfl
end Go.Proofs.YtehclfjjjiiieaaGreat.Cf
