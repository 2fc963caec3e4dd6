/- The characteristic formula of a law, and that it is. Printed by gen.py (own tool). -/
import Derived.Test.YtjkmeooncmhonaaFs
namespace Go.Proofs.Ytjkmeooncmhonaa.Cf
open Go
set_option maxRecDepth 100000
set_option maxHeartbeats 1000000
set_option linter.unusedVariables false
set_option linter.unusedSimpArgs false

-- moiety/moietylaw22.BallotLasts
def F5_l6 (r38 : Slc) (r77 : Slc) (i_78 : Int) (found_81 : Bool) (k_82 : Int) (w83 : World) (K80 : Int → World → Prop) (K84 : Bool × Int → World → Prop) (R : Bool → World → Prop) : Prop :=
  if (decide (k_82 < (r77.len : Int))) = true then (
    dr w83 fun w85 =>
    ex (fun x => (!found_81) = true → (IxA r77 3 k_82) x) fun a86 =>
    ex (fun x => (!found_81) = true → (IxA r38 3 i_78) x) fun a87 =>
    ex (fun x => (!found_81) = true → (RdAt (tInt .i64) (a86.add 0) w85) x) fun x88 =>
    ex (fun x => (!found_81) = true → (RdAt (tInt .i64) (a87.add 0) w85) x) fun x89 =>
    ex (fun x => ((!found_81) && (x88 == x89)) = true → (IxA r77 3 k_82) x) fun a90 =>
    ex (fun x => ((!found_81) && (x88 == x89)) = true → (IxA r38 3 i_78) x) fun a91 =>
    ex (fun x => ((!found_81) && (x88 == x89)) = true → (RdAt T46 a90 w85) x) fun x92 =>
    ex (fun x => ((!found_81) && (x88 == x89)) = true → (RdAt T46 a91 w85) x) fun x93 =>
    ex (fun x => (((!found_81) && (x88 == x89)) && (!(S46.eqb x92 x93))) = true → (IxA r77 3 k_82) x) fun a94 =>
    ex (fun x => (((!found_81) && (x88 == x89)) && (!(S46.eqb x92 x93))) = true → (IxA r38 3 i_78) x) fun a95 =>
    ex (fun x => (((!found_81) && (x88 == x89)) && (!(S46.eqb x92 x93))) = true → (RdAt (tInt .i64) (a94.add 1) w85) x) fun x96 =>
    ex (fun x => (((!found_81) && (x88 == x89)) && (!(S46.eqb x92 x93))) = true → (RdAt (tInt .i64) (a95.add 1) w85) x) fun x97 =>
    K84 ((found_81 || ((x88 == x89) && ((S46.eqb x92 x93) || (decide (x96 > x97))))), (IntKind.i64.wrap (k_82 + (1 : Int)))) w85
  ) else (
    if (!found_81) = true then (
      R false w83
    ) else (
      K80 ((IntKind.i64.wrap (i_78 + (1 : Int)))) w83
    )
  )
def F5_l5 (r38 : Slc) (r63 : Slc) (r77 : Slc) (i_78 : Int) (w79 : World) (K80 : Int → World → Prop) (R : Bool → World → Prop) : Prop :=
  if (decide (i_78 < (r38.len : Int))) = true then (
    lp (fun (s : Bool × Int) w K => F5_l6 r38 r77 i_78 s.1 s.2 w K80 K R) (false, (0 : Int)) w79
  ) else (
    R (decide ((r77.len : Int) ≤ (r63.len : Int))) w79
  )
def F5_j4 (r38 : Slc) (r63 : Slc) (r71 : ((Option Addr) × Int)) (t_74 : Bool) (w75 : World) (R : Bool → World → Prop) : Prop :=
  if t_74 = true then (
    R false w75
  ) else (
    cl Try.prog 17 [.pointer (r71.1)] tSlc w75 fun r77 w76 =>
    lp (fun (s : Int) w K => F5_l5 r38 r63 r77 s w K R) ((0 : Int)) w76
  )
def F5_j3 (r38 : Slc) (r61 : Int) (r63 : Slc) (r71 : ((Option Addr) × Int)) (t_72 : Bool) (w73 : World) (R : Bool → World → Prop) : Prop :=
  if t_72 = true then (
    F5_j4 r38 r63 r71 true w73 R
  ) else (
    cl Try.prog 15 [.pointer (r71.1)] (tInt .i64) w73 fun r104 w103 =>
    F5_j4 r38 r63 r71 (decide (r104 > r61)) w103 R
  )
def F5_l2 (more_2 : Slc) (keep_3 : Int) (r5 : ((Option Addr) × Int)) (r7 : ((Option Addr) × Int)) (r36 : Int) (r38 : Slc) (i_39 : Int) (w40 : World) (K41 : Int → World → Prop) (R : Bool → World → Prop) : Prop :=
  if ((decide (i_39 < (more_2.len : Int))) && (decide (i_39 < (20 : Int)))) = true then (
    ex (IxA more_2 6 i_39) fun a42 =>
    ex (RdAt (tInt .i64) (a42.add 3) w40) fun x43 =>
    cl Try.prog 14 [.pointer (r7.1), .int .i64 (x43)] (tTup2 tSlc (tInt .i64)) w40 fun r45 w44 =>
    dr w44 fun w46 =>
    ex (IxA more_2 6 i_39) fun a47 =>
    ex (IxA more_2 6 i_39) fun a48 =>
    ex (IxA more_2 6 i_39) fun a49 =>
    ex (RdAt (tInt .i64) (a47.add 3) w46) fun x50 =>
    ex (RdAt (tInt .i64) (a48.add 2) w46) fun x51 =>
    ex (RdAt T38 a49 w46) fun x52 =>
    cl Try.prog 13 [T38.enc (x52)] T38 w46 fun r54 w53 =>
    kp ((RdAt (tInt .i64) (a47.add 3) w53) x50) <|
    kp ((RdAt (tInt .i64) (a48.add 2) w53) x51) <|
    cl Try.prog 16 [.pointer (r7.1), .int .i64 (x50), .int .i64 (x51), .string ⟨(r54.V).toArray⟩] (tInt .i64) w53 fun r58 w57 =>
    kp ((RdAt T38 a49 w57) x52) <|
    K41 ((IntKind.i64.wrap (i_39 + (1 : Int)))) w57
  ) else (
    cl Try.prog 15 [.pointer (r7.1)] (tInt .i64) w40 fun r61 w60 =>
    cl Try.prog 17 [.pointer (r7.1)] tSlc w60 fun r63 w62 =>
    nwS 3 (tInt .i64) [keep_3] w62 fun a64 w65 =>
    cl Try.prog 19 [.pointer (r5.1), tSlc.enc ((⟨some a64, 1, 1⟩ : Slc))] tUnit w65 fun r67 w66 =>
    cl Try.prog 20 [.pointer (r5.1)] tUnit w66 fun r69 w68 =>
    cl Try.prog 12 [.pointer (r5.1), .int .i64 ((0 : Int))] (tTup2 tPtr (tInt .i64)) w68 fun r71 w70 =>
    if ((r71.2 != (0 : Int)) || r71.1.isNone) = true then (
      F5_j3 r38 r61 r63 r71 true w70 R
    ) else (
      cl Try.prog 15 [.pointer (r71.1)] (tInt .i64) w70 fun r107 w106 =>
      F5_j3 r38 r61 r63 r71 (decide (r107 < r36)) w106 R
    )
  )
def F5_l1 (sure_1 : Slc) (more_2 : Slc) (keep_3 : Int) (r5 : ((Option Addr) × Int)) (r7 : ((Option Addr) × Int)) (i_10 : Int) (w11 : World) (K12 : Int → World → Prop) (R : Bool → World → Prop) : Prop :=
  if ((decide (i_10 < (sure_1.len : Int))) && (decide (i_10 < (20 : Int)))) = true then (
    ex (IxA sure_1 6 i_10) fun a13 =>
    ex (RdAt (tInt .i64) (a13.add 3) w11) fun x14 =>
    cl Try.prog 14 [.pointer (r7.1), .int .i64 (x14)] (tTup2 tSlc (tInt .i64)) w11 fun r16 w15 =>
    dr w15 fun w17 =>
    ex (IxA sure_1 6 i_10) fun a18 =>
    ex (IxA sure_1 6 i_10) fun a19 =>
    ex (IxA sure_1 6 i_10) fun a20 =>
    ex (RdAt (tInt .i64) (a18.add 3) w17) fun x21 =>
    ex (RdAt (tInt .i64) (a19.add 2) w17) fun x22 =>
    ex (RdAt T38 a20 w17) fun x23 =>
    cl Try.prog 13 [T38.enc (x23)] T38 w17 fun r25 w24 =>
    kp ((RdAt (tInt .i64) (a18.add 3) w24) x21) <|
    kp ((RdAt (tInt .i64) (a19.add 2) w24) x22) <|
    cl Try.prog 16 [.pointer (r7.1), .int .i64 (x21), .int .i64 (x22), .string ⟨(r25.V).toArray⟩] (tInt .i64) w24 fun r29 w28 =>
    kp ((RdAt T38 a20 w28) x23) <|
    K12 ((IntKind.i64.wrap (i_10 + (1 : Int)))) w28
  ) else (
    ex (NC r7.1) fun a31 =>
    ex (RdAt tPtr (a31.add 0) w11) fun x32 =>
    cl Try.prog 18 [.pointer (x32)] (tInt .i64) w11 fun r34 w33 =>
    if (r34 != (0 : Int)) = true then (
      R false w33
    ) else (
      cl Try.prog 15 [.pointer (r7.1)] (tInt .i64) w33 fun r36 w35 =>
      cl Try.prog 17 [.pointer (r7.1)] tSlc w35 fun r38 w37 =>
      lp (fun (s : Int) w K => F5_l2 more_2 keep_3 r5 r7 r36 r38 s w K R) ((0 : Int)) w37
    )
  )
def F5 (sure_1 : Slc) (more_2 : Slc) (keep_3 : Int) (w : World) (R : Bool → World → Prop) : Prop :=
  cl Try.prog 11 [.int .i64 ((1 : Int))] (tTup2 tPtr (tInt .i64)) w fun r5 w4 =>
  cl Try.prog 12 [.pointer (r5.1), .int .i64 ((0 : Int))] (tTup2 tPtr (tInt .i64)) w4 fun r7 w6 =>
  cl Try.prog 7 [] tBool w6 fun r9 w8 =>
  if ((((!r9) || (r5.2 != (0 : Int))) || (r7.2 != (0 : Int))) || r7.1.isNone) = true then (
    R false w8
  ) else (
    lp (fun (s : Int) w K => F5_l1 sure_1 more_2 keep_3 r5 r7 s w K R) ((0 : Int)) w8
  )
theorem F5_ok {sure_1 : Slc} {more_2 : Slc} {keep_3 : Int} {w : World} {R : Bool → World → Prop} (h : F5 sure_1 more_2 keep_3 w R) : cl Try.prog 5 [tSlc.enc (sure_1), tSlc.enc (more_2), .int .i64 (keep_3)] tBool w R := by
  unfold F5 at h
  refine calls_start 218 Try.func5 rfl rfl (Nat.le_of_ble_eq_true rfl) ?_
  refine wp_seq ?_
  refine wp_text [0] rfl ?_
  refine rv 6 rfl rfl rfl (q_assign (v := .bool (false)) rfl rfl) ?_
  refine ro_nil ?_
  refine wp_seq ?_
  refine wp_text [0, 1, 2, 3, 4, 5] rfl ?_
  refine ro_wp rfl (.free rfl) (wp_cl (d := (some 24)) rfl (q_call (k := 11) (l := [.int .i64 ((1 : Int))]) rfl ent11 rfl) h ?_)
  intro r5 w4 h
  refine rv 23 rfl rfl rfl (q_move (v := (tTup2 tPtr (tInt .i64)).enc (r5)) rfl rfl) ?_
  refine rv 25 rfl rfl rfl (q_extract (vs := #[.pointer (r5.1), .int .i64 (r5.2)]) (v := .pointer (r5.1)) rfl rfl rfl) ?_
  refine rv 26 rfl rfl rfl (q_extract (vs := #[.pointer (r5.1), .int .i64 (r5.2)]) (v := .int .i64 (r5.2)) rfl rfl rfl) ?_
  refine rv 7 rfl rfl rfl (q_assign (v := .pointer (r5.1)) rfl rfl) ?_
  refine rv 8 rfl rfl rfl (q_assign (v := .int .i64 (r5.2)) rfl rfl) ?_
  refine ro_nil ?_
  refine wp_seq ?_
  refine wp_text [0, 1, 2, 3, 4, 5, 6] rfl ?_
  refine rv 28 rfl rfl rfl (q_move (v := .pointer (r5.1)) rfl rfl) ?_
  refine ro_wp rfl (.free rfl) (wp_cl (d := (some 29)) rfl (q_call (k := 12) (l := [.pointer (r5.1), .int .i64 ((0 : Int))]) rfl ent12 rfl) h ?_)
  intro r7 w6 h
  refine rv 27 rfl rfl rfl (q_move (v := (tTup2 tPtr (tInt .i64)).enc (r7)) rfl rfl) ?_
  refine rv 30 rfl rfl rfl (q_extract (vs := #[.pointer (r7.1), .int .i64 (r7.2)]) (v := .pointer (r7.1)) rfl rfl rfl) ?_
  refine rv 31 rfl rfl rfl (q_extract (vs := #[.pointer (r7.1), .int .i64 (r7.2)]) (v := .int .i64 (r7.2)) rfl rfl rfl) ?_
  refine rv 9 rfl rfl rfl (q_assign (v := .pointer (r7.1)) rfl rfl) ?_
  refine rv 10 rfl rfl rfl (q_assign (v := .int .i64 (r7.2)) rfl rfl) ?_
  refine ro_nil ?_
  refine wp_seq ?_
  refine wp_seq ?_
  refine wp_text [0, 1, 2, 3, 4, 5, 6, 7, 8, 9, 10, 11, 12, 13] rfl ?_
  refine ro_wp rfl (.free rfl) (wp_cl (d := (some 32)) rfl (q_call (k := 7) (l := []) rfl ent7 rfl) h ?_)
  intro r9 w8 h
  refine rv 33 rfl rfl rfl (q_not (b := r9) rfl rfl) ?_
  refine rv 34 rfl rfl rfl (q_move (v := .bool ((!r9))) rfl rfl) ?_
  refine ro_gval (g := (!(!r9))) (d := (some 35)) rfl (.no 2 34 true (!r9) rfl rfl rfl rfl) rfl (fun hg => q_move (v := .int .i64 (r5.2)) rfl rfl) ?_
  refine ro_gval (g := (!(!r9))) (d := (some 36)) rfl (.no 2 34 true (!r9) rfl rfl rfl rfl) rfl (fun hg => q_neq (a := r5.2) (b := (0 : Int)) rfl (gvb_yes hg) rfl) ?_
  refine rv 37 rfl rfl rfl (q_pickGF (a := (!r9)) (c := (r5.2 != (0 : Int))) rfl rfl rfl rfl) ?_
  refine rv 38 rfl rfl rfl (q_move (v := .bool (((!r9) || (r5.2 != (0 : Int))))) rfl rfl) ?_
  refine ro_gval (g := (!((!r9) || (r5.2 != (0 : Int))))) (d := (some 39)) rfl (.no 6 38 true ((!r9) || (r5.2 != (0 : Int))) rfl rfl rfl rfl) rfl (fun hg => q_move (v := .int .i64 (r7.2)) rfl rfl) ?_
  refine ro_gval (g := (!((!r9) || (r5.2 != (0 : Int))))) (d := (some 40)) rfl (.no 6 38 true ((!r9) || (r5.2 != (0 : Int))) rfl rfl rfl rfl) rfl (fun hg => q_neq (a := r7.2) (b := (0 : Int)) rfl (gvb_yes hg) rfl) ?_
  refine rv 41 rfl rfl rfl (q_pickGF (a := ((!r9) || (r5.2 != (0 : Int)))) (c := (r7.2 != (0 : Int))) rfl rfl rfl rfl) ?_
  refine rv 42 rfl rfl rfl (q_move (v := .bool ((((!r9) || (r5.2 != (0 : Int))) || (r7.2 != (0 : Int))))) rfl rfl) ?_
  refine ro_gval (g := (!(((!r9) || (r5.2 != (0 : Int))) || (r7.2 != (0 : Int))))) (d := (some 43)) rfl (.no 10 42 true (((!r9) || (r5.2 != (0 : Int))) || (r7.2 != (0 : Int))) rfl rfl rfl rfl) rfl (fun hg => q_move (v := .pointer (r7.1)) rfl rfl) ?_
  refine ro_gval (g := (!(((!r9) || (r5.2 != (0 : Int))) || (r7.2 != (0 : Int))))) (d := (some 44)) rfl (.no 10 42 true (((!r9) || (r5.2 != (0 : Int))) || (r7.2 != (0 : Int))) rfl rfl rfl rfl) rfl (fun hg => q_eqP0 (a := r7.1) rfl Try.underlying34 (gvb_yes hg) rfl) ?_
  refine rv 45 rfl rfl rfl (q_pickGF (a := (((!r9) || (r5.2 != (0 : Int))) || (r7.2 != (0 : Int)))) (c := r7.1.isNone) rfl rfl rfl rfl) ?_
  refine ro_nil ?_
  refine wp_if (b := ((((!r9) || (r5.2 != (0 : Int))) || (r7.2 != (0 : Int))) || r7.1.isNone)) rfl h (fun hb111 h => ?_) (fun hb111 h => ?_)
  · refine wp_seq ?_
    refine wp_text [0] rfl ?_
    refine rv 6 rfl rfl rfl (q_assign (v := .bool (false)) rfl rfl) ?_
    refine ro_nil ?_
    refine wp_ret ?_
    exact ret_ok rfl (.cons (.tmp (v := .bool (false)) rfl) .nil) ⟨false, rfl, h⟩
  · refine wp_skip ?_
    refine wp_seq ?_
    refine wp_seq ?_
    refine wp_text [0] rfl ?_
    refine rv 11 rfl rfl rfl (q_assign (v := .int .i64 ((0 : Int))) rfl rfl) ?_
    refine ro_nil ?_
    refine wp_block ?_
    refine loop_at (σ := Int) (fr := fun g (s : Int) => upd (upd (upd (upd (upd (upd (g) 0 (tSlc.enc (sure_1))) 1 (tSlc.enc (more_2))) 2 (.int .i64 (keep_3))) 7 (.pointer (r5.1))) 9 (.pointer (r7.1))) 11 (.int .i64 (s))) (s0 := ((0 : Int))) (upd_step (upd_step (upd_step (upd_step (upd_step (upd_step rfl rfl) rfl) rfl) rfl) rfl) rfl) h ?_
    rintro i_10 g w11 K12 h
    unfold F5_l1 at h
    refine wp_seq ?_
    refine wp_seq ?_
    refine wp_text [0, 1, 2, 3, 4, 5, 6, 7] rfl ?_
    refine rv 46 rfl rfl rfl (q_move (v := .int .i64 (i_10)) rfl rfl) ?_
    refine rv 47 rfl rfl rfl (q_move (v := tSlc.enc (sure_1)) rfl rfl) ?_
    refine rv 48 rfl rfl rfl (q_len (s := sure_1) rfl Try.underlying29 rfl) ?_
    refine rv 49 rfl rfl rfl (q_lss (a := i_10) (b := (sure_1.len : Int)) rfl rfl rfl) ?_
    refine rv 50 rfl rfl rfl (q_move (v := .bool ((decide (i_10 < (sure_1.len : Int))))) rfl rfl) ?_
    refine ro_gval (g := (decide (i_10 < (sure_1.len : Int)))) (d := (some 51)) rfl (.yes 4 50 true (decide (i_10 < (sure_1.len : Int))) rfl rfl rfl rfl) rfl (fun hg => q_move (v := .int .i64 (i_10)) rfl rfl) ?_
    refine ro_gval (g := (decide (i_10 < (sure_1.len : Int)))) (d := (some 52)) rfl (.yes 4 50 true (decide (i_10 < (sure_1.len : Int))) rfl rfl rfl rfl) rfl (fun hg => q_lss (a := i_10) (b := (20 : Int)) rfl (gvb_yes hg) rfl) ?_
    refine rv 53 rfl rfl rfl (q_pickGT (a := (decide (i_10 < (sure_1.len : Int)))) (b := (decide (i_10 < (20 : Int)))) rfl rfl rfl rfl) ?_
    refine ro_nil ?_
    refine wp_if (b := ((decide (i_10 < (sure_1.len : Int))) && (decide (i_10 < (20 : Int))))) rfl h (fun hb110 h => ?_) (fun hb110 h => ?_)
    · refine wp_skip ?_
      refine wp_seq ?_
      refine wp_block ?_
      refine wp_seq ?_
      refine wp_text [0, 1, 2, 3, 4, 5, 6] rfl ?_
      refine rv 56 rfl rfl rfl (q_move (v := .pointer (r7.1)) rfl rfl) ?_
      refine rv 57 rfl rfl rfl (q_move (v := tSlc.enc (sure_1)) rfl rfl) ?_
      refine rv 58 rfl rfl rfl (q_move (v := .int .i64 (i_10)) rfl rfl) ?_
      obtain ⟨a13, ha13, h⟩ := h
      refine rv 59 rfl rfl rfl (q_indexAddr (s := sure_1) (i := i_10) rfl Try.underlying29 ok39 rfl rfl ha13) ?_
      refine rv 60 rfl rfl rfl (q_fieldAddr (a := a13) (off := 3) rfl Try.underlying39 rfl rfl ok2 (by decide) rfl) ?_
      obtain ⟨x14, hx14, h⟩ := h
      refine rv 61 rfl rfl rfl (q_load (T := (tInt .i64)) (u := x14) (a := (a13.add 3)) rfl ok2 rfl hx14) ?_
      refine ro_wp rfl (.free rfl) (wp_cl (d := (some 62)) rfl (q_call (k := 14) (l := [.pointer (r7.1), .int .i64 (x14)]) rfl ent14 rfl) h ?_)
      intro r16 w15 h
      refine ro_nil ?_
      obtain ⟨w17, hw17, h⟩ := dr_open h
      refine wp_drawn 18 mixed rfl (by kernel_rfl) (by intro c a d v w h; cases d <;> exact h) hw17 (fun hD => ?_)
      refine rp 0 63 hD rfl rfl rfl (fun _ => q_move (v := .pointer (r7.1)) rfl rfl) ?_
      refine rp 1 64 hD rfl rfl rfl (fun _ => q_move (v := tSlc.enc (sure_1)) rfl rfl) ?_
      refine rp 2 65 hD rfl rfl rfl (fun _ => q_move (v := .int .i64 (i_10)) rfl rfl) ?_
      obtain ⟨a18, ha18, h⟩ := h
      refine rp 3 66 hD rfl rfl rfl (fun _ => q_indexAddr (s := sure_1) (i := i_10) rfl Try.underlying29 ok39 rfl rfl ha18) ?_
      refine rp 4 67 hD rfl rfl rfl (fun _ => q_fieldAddr (a := a18) (off := 3) rfl Try.underlying39 rfl rfl ok2 (by decide) rfl) ?_
      refine rp 6 69 hD rfl rfl rfl (fun _ => q_move (v := tSlc.enc (sure_1)) rfl rfl) ?_
      refine rp 7 70 hD rfl rfl rfl (fun _ => q_move (v := .int .i64 (i_10)) rfl rfl) ?_
      obtain ⟨a19, ha19, h⟩ := h
      refine rp 8 71 hD rfl rfl rfl (fun _ => q_indexAddr (s := sure_1) (i := i_10) rfl Try.underlying29 ok39 rfl rfl ha19) ?_
      refine rp 9 72 hD rfl rfl rfl (fun _ => q_fieldAddr (a := a19) (off := 2) rfl Try.underlying39 rfl rfl ok3 (by decide) rfl) ?_
      refine rp 11 74 hD rfl rfl rfl (fun _ => q_move (v := tSlc.enc (sure_1)) rfl rfl) ?_
      refine rp 12 75 hD rfl rfl rfl (fun _ => q_move (v := .int .i64 (i_10)) rfl rfl) ?_
      obtain ⟨a20, ha20, h⟩ := h
      refine rp 13 76 hD rfl rfl rfl (fun _ => q_indexAddr (s := sure_1) (i := i_10) rfl Try.underlying29 ok39 rfl rfl ha20) ?_
      obtain ⟨x21, hx21, h⟩ := h
      refine rd_read (i := 5) (d := (some 68)) (fun W => (RdAt (tInt .i64) (a18.add 3) W) x21) hD (by kernel_rfl) (by kernel_rfl) rfl (.free rfl) rfl (fun W hr => q_load (T := (tInt .i64)) (u := x21) (a := (a18.add 3)) rfl ok2 rfl hr) hx21 ?_
      obtain ⟨x22, hx22, h⟩ := h
      refine rd_read (i := 10) (d := (some 73)) (fun W => (RdAt (tInt .i64) (a19.add 2) W) x22) hD (by kernel_rfl) (by kernel_rfl) rfl (.free rfl) rfl (fun W hr => q_load (T := (tInt .i64)) (u := x22) (a := (a19.add 2)) rfl ok3 rfl hr) hx22 ?_
      obtain ⟨x23, hx23, h⟩ := h
      refine rd_read (i := 14) (d := (some 77)) (fun W => (RdAt T38 a20 W) x23) hD (by kernel_rfl) (by kernel_rfl) rfl (.free rfl) rfl (fun W hr => q_load (T := T38) (u := x23) (a := a20) rfl ok39 rfl hr) hx23 ?_
      refine rd_one (i := 15) (by kernel_rfl) ?_
      refine po_wp rfl (.free rfl) (wp_cl (d := (some 78)) rfl (q_call (k := 13) (l := [T38.enc (x23)]) rfl ent13 rfl) h ?_)
      intro r25 w24 h
      obtain ⟨hk26, h⟩ := h
      obtain ⟨hk27, h⟩ := h
      refine ⟨(hk_wait (by kernel_rfl) (hk_keep (fun _ => hk27) (hk_keep (fun _ => hk26) hk_nil))), ?_⟩
      refine rp 16 79 hD rfl rfl rfl (fun _ => q_field1 (c := T38.cells r25) (v := .string ⟨(r25.V).toArray⟩) (off := 4) rfl Try.underlying39 rfl rfl Try.underlying9 rfl rfl rfl) ?_
      refine rd_one (i := 17) (by kernel_rfl) ?_
      refine po_wp rfl (.free rfl) (wp_cl (d := (some 80)) rfl (q_call (k := 16) (l := [.pointer (r7.1), .int .i64 (x21), .int .i64 (x22), .string ⟨(r25.V).toArray⟩]) rfl ent16 rfl) h ?_)
      intro r29 w28 h
      obtain ⟨hk30, h⟩ := h
      refine ⟨(hk_keep (fun _ => hk30) (hk_wait (by kernel_rfl) (hk_wait (by kernel_rfl) hk_nil))), ?_⟩
      refine rd_nil (by kernel_rfl) ?_
      refine wp_text [0, 1, 2] rfl ?_
      refine rv 54 rfl rfl rfl (q_move (v := .int .i64 (i_10)) rfl rfl) ?_
      refine rv 55 rfl rfl rfl (q_add (a := i_10) (b := (1 : Int)) rfl rfl rfl) ?_
      refine rv 11 rfl rfl rfl (q_assign (v := .int .i64 ((IntKind.i64.wrap (i_10 + (1 : Int))))) rfl rfl) ?_
      refine ro_nil ?_
      exact ⟨((IntKind.i64.wrap (i_10 + (1 : Int)))), _, arr (upd_step (upd_step (upd_step (upd_step (upd_step (upd_step rfl rfl) rfl) rfl) rfl) rfl) rfl), h⟩
    · refine wp_exit ?_
      refine wp_seq ?_
      refine wp_seq ?_
      refine wp_text [0, 1, 2, 3, 4, 5] rfl ?_
      refine rv 81 rfl rfl rfl (q_move (v := .pointer (r7.1)) rfl rfl) ?_
      obtain ⟨a31, ha31, h⟩ := h
      refine rv 82 rfl rfl rfl (q_nilCheck (a := a31) rfl (congrArg Value.pointer ha31)) ?_
      refine rv 83 rfl rfl rfl (q_fieldAddr (a := a31) (off := 0) rfl Try.underlying53 rfl rfl ok50 (by decide) rfl) ?_
      obtain ⟨x32, hx32, h⟩ := h
      refine rv 84 rfl rfl rfl (q_load (T := tPtr) (u := x32) (a := (a31.add 0)) rfl ok50 rfl hx32) ?_
      refine ro_wp rfl (.free rfl) (wp_cl (d := (some 85)) rfl (q_call (k := 18) (l := [.pointer (x32)]) rfl ent18 rfl) h ?_)
      intro r34 w33 h
      refine rv 86 rfl rfl rfl (q_neq (a := r34) (b := (0 : Int)) rfl rfl rfl) ?_
      refine ro_nil ?_
      refine wp_if (b := (r34 != (0 : Int))) rfl h (fun hb109 h => ?_) (fun hb109 h => ?_)
      · refine wp_seq ?_
        refine wp_text [0] rfl ?_
        refine rv 6 rfl rfl rfl (q_assign (v := .bool (false)) rfl rfl) ?_
        refine ro_nil ?_
        refine wp_ret ?_
        exact ret_ok rfl (.cons (.tmp (v := .bool (false)) rfl) .nil) ⟨false, rfl, h⟩
      · refine wp_skip ?_
        refine wp_seq ?_
        refine wp_text [0, 1, 2, 3, 4, 5] rfl ?_
        refine rv 87 rfl rfl rfl (q_move (v := .pointer (r7.1)) rfl rfl) ?_
        refine ro_wp rfl (.free rfl) (wp_cl (d := (some 88)) rfl (q_call (k := 15) (l := [.pointer (r7.1)]) rfl ent15 rfl) h ?_)
        intro r36 w35 h
        refine rv 89 rfl rfl rfl (q_move (v := .pointer (r7.1)) rfl rfl) ?_
        refine ro_wp rfl (.free rfl) (wp_cl (d := (some 90)) rfl (q_call (k := 17) (l := [.pointer (r7.1)]) rfl ent17 rfl) h ?_)
        intro r38 w37 h
        refine rv 12 rfl rfl rfl (q_assign (v := .int .i64 (r36)) rfl rfl) ?_
        refine rv 13 rfl rfl rfl (q_assign (v := tSlc.enc (r38)) rfl rfl) ?_
        refine ro_nil ?_
        refine wp_seq ?_
        refine wp_seq ?_
        refine wp_text [0] rfl ?_
        refine rv 14 rfl rfl rfl (q_assign (v := .int .i64 ((0 : Int))) rfl rfl) ?_
        refine ro_nil ?_
        refine wp_block ?_
        refine loop_at (σ := Int) (fr := fun g (s : Int) => upd (upd (upd (upd (upd (upd (upd (g) 1 (tSlc.enc (more_2))) 2 (.int .i64 (keep_3))) 7 (.pointer (r5.1))) 9 (.pointer (r7.1))) 12 (.int .i64 (r36))) 13 (tSlc.enc (r38))) 14 (.int .i64 (s))) (s0 := ((0 : Int))) (upd_step (upd_step (upd_step (upd_step (upd_step (upd_step (upd_step rfl rfl) rfl) rfl) rfl) rfl) rfl) rfl) h ?_
        rintro i_39 g w40 K41 h
        unfold F5_l2 at h
        refine wp_seq ?_
        refine wp_seq ?_
        refine wp_text [0, 1, 2, 3, 4, 5, 6, 7] rfl ?_
        refine rv 91 rfl rfl rfl (q_move (v := .int .i64 (i_39)) rfl rfl) ?_
        refine rv 92 rfl rfl rfl (q_move (v := tSlc.enc (more_2)) rfl rfl) ?_
        refine rv 93 rfl rfl rfl (q_len (s := more_2) rfl Try.underlying29 rfl) ?_
        refine rv 94 rfl rfl rfl (q_lss (a := i_39) (b := (more_2.len : Int)) rfl rfl rfl) ?_
        refine rv 95 rfl rfl rfl (q_move (v := .bool ((decide (i_39 < (more_2.len : Int))))) rfl rfl) ?_
        refine ro_gval (g := (decide (i_39 < (more_2.len : Int)))) (d := (some 96)) rfl (.yes 4 95 true (decide (i_39 < (more_2.len : Int))) rfl rfl rfl rfl) rfl (fun hg => q_move (v := .int .i64 (i_39)) rfl rfl) ?_
        refine ro_gval (g := (decide (i_39 < (more_2.len : Int)))) (d := (some 97)) rfl (.yes 4 95 true (decide (i_39 < (more_2.len : Int))) rfl rfl rfl rfl) rfl (fun hg => q_lss (a := i_39) (b := (20 : Int)) rfl (gvb_yes hg) rfl) ?_
        refine rv 98 rfl rfl rfl (q_pickGT (a := (decide (i_39 < (more_2.len : Int)))) (b := (decide (i_39 < (20 : Int)))) rfl rfl rfl rfl) ?_
        refine ro_nil ?_
        refine wp_if (b := ((decide (i_39 < (more_2.len : Int))) && (decide (i_39 < (20 : Int))))) rfl h (fun hb108 h => ?_) (fun hb108 h => ?_)
        · refine wp_skip ?_
          refine wp_seq ?_
          refine wp_block ?_
          refine wp_seq ?_
          refine wp_text [0, 1, 2, 3, 4, 5, 6] rfl ?_
          refine rv 101 rfl rfl rfl (q_move (v := .pointer (r7.1)) rfl rfl) ?_
          refine rv 102 rfl rfl rfl (q_move (v := tSlc.enc (more_2)) rfl rfl) ?_
          refine rv 103 rfl rfl rfl (q_move (v := .int .i64 (i_39)) rfl rfl) ?_
          obtain ⟨a42, ha42, h⟩ := h
          refine rv 104 rfl rfl rfl (q_indexAddr (s := more_2) (i := i_39) rfl Try.underlying29 ok39 rfl rfl ha42) ?_
          refine rv 105 rfl rfl rfl (q_fieldAddr (a := a42) (off := 3) rfl Try.underlying39 rfl rfl ok2 (by decide) rfl) ?_
          obtain ⟨x43, hx43, h⟩ := h
          refine rv 106 rfl rfl rfl (q_load (T := (tInt .i64)) (u := x43) (a := (a42.add 3)) rfl ok2 rfl hx43) ?_
          refine ro_wp rfl (.free rfl) (wp_cl (d := (some 107)) rfl (q_call (k := 14) (l := [.pointer (r7.1), .int .i64 (x43)]) rfl ent14 rfl) h ?_)
          intro r45 w44 h
          refine ro_nil ?_
          obtain ⟨w46, hw46, h⟩ := dr_open h
          refine wp_drawn 18 mixed rfl (by kernel_rfl) (by intro c a d v w h; cases d <;> exact h) hw46 (fun hD => ?_)
          refine rp 0 108 hD rfl rfl rfl (fun _ => q_move (v := .pointer (r7.1)) rfl rfl) ?_
          refine rp 1 109 hD rfl rfl rfl (fun _ => q_move (v := tSlc.enc (more_2)) rfl rfl) ?_
          refine rp 2 110 hD rfl rfl rfl (fun _ => q_move (v := .int .i64 (i_39)) rfl rfl) ?_
          obtain ⟨a47, ha47, h⟩ := h
          refine rp 3 111 hD rfl rfl rfl (fun _ => q_indexAddr (s := more_2) (i := i_39) rfl Try.underlying29 ok39 rfl rfl ha47) ?_
          refine rp 4 112 hD rfl rfl rfl (fun _ => q_fieldAddr (a := a47) (off := 3) rfl Try.underlying39 rfl rfl ok2 (by decide) rfl) ?_
          refine rp 6 114 hD rfl rfl rfl (fun _ => q_move (v := tSlc.enc (more_2)) rfl rfl) ?_
          refine rp 7 115 hD rfl rfl rfl (fun _ => q_move (v := .int .i64 (i_39)) rfl rfl) ?_
          obtain ⟨a48, ha48, h⟩ := h
          refine rp 8 116 hD rfl rfl rfl (fun _ => q_indexAddr (s := more_2) (i := i_39) rfl Try.underlying29 ok39 rfl rfl ha48) ?_
          refine rp 9 117 hD rfl rfl rfl (fun _ => q_fieldAddr (a := a48) (off := 2) rfl Try.underlying39 rfl rfl ok3 (by decide) rfl) ?_
          refine rp 11 119 hD rfl rfl rfl (fun _ => q_move (v := tSlc.enc (more_2)) rfl rfl) ?_
          refine rp 12 120 hD rfl rfl rfl (fun _ => q_move (v := .int .i64 (i_39)) rfl rfl) ?_
          obtain ⟨a49, ha49, h⟩ := h
          refine rp 13 121 hD rfl rfl rfl (fun _ => q_indexAddr (s := more_2) (i := i_39) rfl Try.underlying29 ok39 rfl rfl ha49) ?_
          obtain ⟨x50, hx50, h⟩ := h
          refine rd_read (i := 5) (d := (some 113)) (fun W => (RdAt (tInt .i64) (a47.add 3) W) x50) hD (by kernel_rfl) (by kernel_rfl) rfl (.free rfl) rfl (fun W hr => q_load (T := (tInt .i64)) (u := x50) (a := (a47.add 3)) rfl ok2 rfl hr) hx50 ?_
          obtain ⟨x51, hx51, h⟩ := h
          refine rd_read (i := 10) (d := (some 118)) (fun W => (RdAt (tInt .i64) (a48.add 2) W) x51) hD (by kernel_rfl) (by kernel_rfl) rfl (.free rfl) rfl (fun W hr => q_load (T := (tInt .i64)) (u := x51) (a := (a48.add 2)) rfl ok3 rfl hr) hx51 ?_
          obtain ⟨x52, hx52, h⟩ := h
          refine rd_read (i := 14) (d := (some 122)) (fun W => (RdAt T38 a49 W) x52) hD (by kernel_rfl) (by kernel_rfl) rfl (.free rfl) rfl (fun W hr => q_load (T := T38) (u := x52) (a := a49) rfl ok39 rfl hr) hx52 ?_
          refine rd_one (i := 15) (by kernel_rfl) ?_
          refine po_wp rfl (.free rfl) (wp_cl (d := (some 123)) rfl (q_call (k := 13) (l := [T38.enc (x52)]) rfl ent13 rfl) h ?_)
          intro r54 w53 h
          obtain ⟨hk55, h⟩ := h
          obtain ⟨hk56, h⟩ := h
          refine ⟨(hk_wait (by kernel_rfl) (hk_keep (fun _ => hk56) (hk_keep (fun _ => hk55) hk_nil))), ?_⟩
          refine rp 16 124 hD rfl rfl rfl (fun _ => q_field1 (c := T38.cells r54) (v := .string ⟨(r54.V).toArray⟩) (off := 4) rfl Try.underlying39 rfl rfl Try.underlying9 rfl rfl rfl) ?_
          refine rd_one (i := 17) (by kernel_rfl) ?_
          refine po_wp rfl (.free rfl) (wp_cl (d := (some 125)) rfl (q_call (k := 16) (l := [.pointer (r7.1), .int .i64 (x50), .int .i64 (x51), .string ⟨(r54.V).toArray⟩]) rfl ent16 rfl) h ?_)
          intro r58 w57 h
          obtain ⟨hk59, h⟩ := h
          refine ⟨(hk_keep (fun _ => hk59) (hk_wait (by kernel_rfl) (hk_wait (by kernel_rfl) hk_nil))), ?_⟩
          refine rd_nil (by kernel_rfl) ?_
          refine wp_text [0, 1, 2] rfl ?_
          refine rv 99 rfl rfl rfl (q_move (v := .int .i64 (i_39)) rfl rfl) ?_
          refine rv 100 rfl rfl rfl (q_add (a := i_39) (b := (1 : Int)) rfl rfl rfl) ?_
          refine rv 14 rfl rfl rfl (q_assign (v := .int .i64 ((IntKind.i64.wrap (i_39 + (1 : Int))))) rfl rfl) ?_
          refine ro_nil ?_
          exact ⟨((IntKind.i64.wrap (i_39 + (1 : Int)))), _, arr (upd_step (upd_step (upd_step (upd_step (upd_step (upd_step (upd_step rfl rfl) rfl) rfl) rfl) rfl) rfl) rfl), h⟩
        · refine wp_exit ?_
          refine wp_seq ?_
          refine wp_text [0, 1, 2, 3, 4, 5] rfl ?_
          refine rv 126 rfl rfl rfl (q_move (v := .pointer (r7.1)) rfl rfl) ?_
          refine ro_wp rfl (.free rfl) (wp_cl (d := (some 127)) rfl (q_call (k := 15) (l := [.pointer (r7.1)]) rfl ent15 rfl) h ?_)
          intro r61 w60 h
          refine rv 128 rfl rfl rfl (q_move (v := .pointer (r7.1)) rfl rfl) ?_
          refine ro_wp rfl (.free rfl) (wp_cl (d := (some 129)) rfl (q_call (k := 17) (l := [.pointer (r7.1)]) rfl ent17 rfl) h ?_)
          intro r63 w62 h
          refine rv 15 rfl rfl rfl (q_assign (v := .int .i64 (r61)) rfl rfl) ?_
          refine rv 16 rfl rfl rfl (q_assign (v := tSlc.enc (r63)) rfl rfl) ?_
          refine ro_nil ?_
          refine wp_seq ?_
          refine wp_text [0, 1, 2, 3] rfl ?_
          refine rv 130 rfl rfl rfl (q_move (v := .pointer (r5.1)) rfl rfl) ?_
          refine rv 131 rfl rfl rfl (q_move (v := .int .i64 (keep_3)) rfl rfl) ?_
          obtain ⟨a64, w65, ha64, hw65, h⟩ := nwS_open h
          refine rv 132 rfl rfl rfl (q_rowOf (T := (tInt .i64)) (xs := [keep_3]) rfl Try.underlying37 ok3 inf3 rfl (by decide) (by decide) rfl ha64 hw65) ?_
          refine ro_wp rfl (.free rfl) (wp_cl (d := (some 133)) rfl (q_call (k := 19) (l := [.pointer (r5.1), tSlc.enc ((⟨some a64, 1, 1⟩ : Slc))]) rfl ent19 rfl) h ?_)
          intro r67 w66 h
          refine ro_nil ?_
          refine wp_seq ?_
          refine wp_text [0, 1] rfl ?_
          refine rv 134 rfl rfl rfl (q_move (v := .pointer (r5.1)) rfl rfl) ?_
          refine ro_wp rfl (.free rfl) (wp_cl (d := (some 135)) rfl (q_call (k := 20) (l := [.pointer (r5.1)]) rfl ent20 rfl) h ?_)
          intro r69 w68 h
          refine ro_nil ?_
          refine wp_seq ?_
          refine wp_text [0, 1, 2, 3, 4, 5, 6] rfl ?_
          refine rv 137 rfl rfl rfl (q_move (v := .pointer (r5.1)) rfl rfl) ?_
          refine ro_wp rfl (.free rfl) (wp_cl (d := (some 138)) rfl (q_call (k := 12) (l := [.pointer (r5.1), .int .i64 ((0 : Int))]) rfl ent12 rfl) h ?_)
          intro r71 w70 h
          refine rv 136 rfl rfl rfl (q_move (v := (tTup2 tPtr (tInt .i64)).enc (r71)) rfl rfl) ?_
          refine rv 139 rfl rfl rfl (q_extract (vs := #[.pointer (r71.1), .int .i64 (r71.2)]) (v := .pointer (r71.1)) rfl rfl rfl) ?_
          refine rv 140 rfl rfl rfl (q_extract (vs := #[.pointer (r71.1), .int .i64 (r71.2)]) (v := .int .i64 (r71.2)) rfl rfl rfl) ?_
          refine rv 17 rfl rfl rfl (q_assign (v := .pointer (r71.1)) rfl rfl) ?_
          refine rv 18 rfl rfl rfl (q_assign (v := .int .i64 (r71.2)) rfl rfl) ?_
          refine ro_nil ?_
          refine wp_seq ?_
          refine wp_seq ?_
          refine wp_text [0, 1, 2, 3, 4, 5, 6, 7, 8, 9, 10, 11, 12, 13, 14, 15, 16, 17] rfl ?_
          refine rv 141 rfl rfl rfl (q_move (v := .int .i64 (r71.2)) rfl rfl) ?_
          refine rv 142 rfl rfl rfl (q_neq (a := r71.2) (b := (0 : Int)) rfl rfl rfl) ?_
          refine rv 143 rfl rfl rfl (q_move (v := .bool ((r71.2 != (0 : Int)))) rfl rfl) ?_
          refine ro_gval (g := (!(r71.2 != (0 : Int)))) (d := (some 144)) rfl (.no 2 143 true (r71.2 != (0 : Int)) rfl rfl rfl rfl) rfl (fun hg => q_move (v := .pointer (r71.1)) rfl rfl) ?_
          refine ro_gval (g := (!(r71.2 != (0 : Int)))) (d := (some 145)) rfl (.no 2 143 true (r71.2 != (0 : Int)) rfl rfl rfl rfl) rfl (fun hg => q_eqP0 (a := r71.1) rfl Try.underlying34 (gvb_yes hg) rfl) ?_
          refine rv 146 rfl rfl rfl (q_pickGF (a := (r71.2 != (0 : Int))) (c := r71.1.isNone) rfl rfl rfl rfl) ?_
          refine rv 147 rfl rfl rfl (q_move (v := .bool (((r71.2 != (0 : Int)) || r71.1.isNone))) rfl rfl) ?_
          refine ro_join (σ := Bool) (J := fun (s : Bool) w => F5_j3 r38 r61 r63 r71 s w R) (fr := fun g (s : Bool) => upd (upd (upd (upd (upd (g) 13 (tSlc.enc (r38))) 15 (.int .i64 (r61))) 16 (tSlc.enc (r63))) 17 (.pointer (r71.1))) 152 (.bool (s))) [7, 8, 9, 10, 11] [12, 13, 14, 15, 16, 17] ?_ ?_
          · rintro t_72 g w73 h
            unfold F5_j3 at h
            refine rv 153 rfl rfl rfl (q_move (v := .bool (t_72)) rfl rfl) ?_
            refine ro_join (σ := Bool) (J := fun (s : Bool) w => F5_j4 r38 r63 r71 s w R) (fr := fun g (s : Bool) => upd (upd (upd (upd (g) 13 (tSlc.enc (r38))) 16 (tSlc.enc (r63))) 17 (.pointer (r71.1))) 158 (.bool (s))) [13, 14, 15, 16, 17] [] ?_ ?_
            · rintro t_74 g w75 h
              unfold F5_j4 at h
              refine ro_nil ?_
              refine wp_if (b := t_74) rfl h (fun hb101 h => ?_) (fun hb101 h => ?_)
              · refine wp_seq ?_
                refine wp_text [0] rfl ?_
                refine rv 6 rfl rfl rfl (q_assign (v := .bool (false)) rfl rfl) ?_
                refine ro_nil ?_
                refine wp_ret ?_
                exact ret_ok rfl (.cons (.tmp (v := .bool (false)) rfl) .nil) ⟨false, rfl, h⟩
              · refine wp_skip ?_
                refine wp_seq ?_
                refine wp_text [0, 1, 2] rfl ?_
                refine rv 159 rfl rfl rfl (q_move (v := .pointer (r71.1)) rfl rfl) ?_
                refine ro_wp rfl (.free rfl) (wp_cl (d := (some 160)) rfl (q_call (k := 17) (l := [.pointer (r71.1)]) rfl ent17 rfl) h ?_)
                intro r77 w76 h
                refine rv 19 rfl rfl rfl (q_assign (v := tSlc.enc (r77)) rfl rfl) ?_
                refine ro_nil ?_
                refine wp_seq ?_
                refine wp_seq ?_
                refine wp_text [0] rfl ?_
                refine rv 20 rfl rfl rfl (q_assign (v := .int .i64 ((0 : Int))) rfl rfl) ?_
                refine ro_nil ?_
                refine wp_block ?_
                refine loop_at (σ := Int) (fr := fun g (s : Int) => upd (upd (upd (upd (g) 13 (tSlc.enc (r38))) 16 (tSlc.enc (r63))) 19 (tSlc.enc (r77))) 20 (.int .i64 (s))) (s0 := ((0 : Int))) (upd_step (upd_step (upd_step (upd_step rfl rfl) rfl) rfl) rfl) h ?_
                rintro i_78 g w79 K80 h
                unfold F5_l5 at h
                refine wp_seq ?_
                refine wp_seq ?_
                refine wp_text [0, 1, 2, 3] rfl ?_
                refine rv 161 rfl rfl rfl (q_move (v := .int .i64 (i_78)) rfl rfl) ?_
                refine rv 162 rfl rfl rfl (q_move (v := tSlc.enc (r38)) rfl rfl) ?_
                refine rv 163 rfl rfl rfl (q_len (s := r38) rfl Try.underlying23 rfl) ?_
                refine rv 164 rfl rfl rfl (q_lss (a := i_78) (b := (r38.len : Int)) rfl rfl rfl) ?_
                refine ro_nil ?_
                refine wp_if (b := (decide (i_78 < (r38.len : Int)))) rfl h (fun hb100 h => ?_) (fun hb100 h => ?_)
                · refine wp_skip ?_
                  refine wp_seq ?_
                  refine wp_block ?_
                  refine wp_seq ?_
                  refine wp_text [0] rfl ?_
                  refine rv 21 rfl rfl rfl (q_assign (v := .bool (false)) rfl rfl) ?_
                  refine ro_nil ?_
                  refine wp_seq ?_
                  refine wp_seq ?_
                  refine wp_text [0] rfl ?_
                  refine rv 22 rfl rfl rfl (q_assign (v := .int .i64 ((0 : Int))) rfl rfl) ?_
                  refine ro_nil ?_
                  refine wp_block ?_
                  refine loop_at (σ := Bool × Int) (fr := fun g (s : Bool × Int) => upd (upd (upd (upd (upd (upd (g) 13 (tSlc.enc (r38))) 16 (tSlc.enc (r63))) 19 (tSlc.enc (r77))) 20 (.int .i64 (i_78))) 21 (.bool (s.1))) 22 (.int .i64 (s.2))) (s0 := (false, (0 : Int))) (upd_step (upd_step (upd_step (upd_step (upd_step (upd_step rfl rfl) rfl) rfl) rfl) rfl) rfl) h ?_
                  rintro ⟨found_81, k_82⟩ g w83 K84 h
                  unfold F5_l6 at h
                  refine wp_seq ?_
                  refine wp_seq ?_
                  refine wp_text [0, 1, 2, 3] rfl ?_
                  refine rv 167 rfl rfl rfl (q_move (v := .int .i64 (k_82)) rfl rfl) ?_
                  refine rv 168 rfl rfl rfl (q_move (v := tSlc.enc (r77)) rfl rfl) ?_
                  refine rv 169 rfl rfl rfl (q_len (s := r77) rfl Try.underlying23 rfl) ?_
                  refine rv 170 rfl rfl rfl (q_lss (a := k_82) (b := (r77.len : Int)) rfl rfl rfl) ?_
                  refine ro_nil ?_
                  refine wp_if (b := (decide (k_82 < (r77.len : Int)))) rfl h (fun hb99 h => ?_) (fun hb99 h => ?_)
                  · refine wp_skip ?_
                    refine wp_seq ?_
                    refine wp_block ?_
                    obtain ⟨w85, hw85, h⟩ := dr_open h
                    refine wp_drawn 39 mixed rfl (by kernel_rfl) (by intro c a d v w h; cases d <;> exact h) hw85 (fun hD => ?_)
                    refine rp 0 173 hD rfl rfl rfl (fun _ => q_move (v := .bool (found_81)) rfl rfl) ?_
                    refine rp 1 174 hD rfl rfl rfl (fun _ => q_move (v := .bool (found_81)) rfl rfl) ?_
                    refine rd_gpure (i := 2) (g := (!found_81)) (d := (some 175)) hD (by kernel_rfl) (by kernel_rfl) rfl (.no 1 174 true found_81 rfl rfl rfl rfl) rfl (fun hg _ => q_move (v := tSlc.enc (r77)) rfl rfl) ?_
                    refine rd_gpure (i := 3) (g := (!found_81)) (d := (some 176)) hD (by kernel_rfl) (by kernel_rfl) rfl (.no 1 174 true found_81 rfl rfl rfl rfl) rfl (fun hg _ => q_move (v := .int .i64 (k_82)) rfl rfl) ?_
                    obtain ⟨a86, ha86, h⟩ := h
                    refine rd_gpure (i := 4) (g := (!found_81)) (d := (some 177)) hD (by kernel_rfl) (by kernel_rfl) rfl (.no 1 174 true found_81 rfl rfl rfl rfl) rfl (fun hg _ => q_indexAddr (s := r77) (i := k_82) rfl Try.underlying23 ok47 (gvb_yes hg) (gvb_yes hg) (ha86 hg)) ?_
                    refine rd_gpure (i := 5) (g := (!found_81)) (d := (some 178)) hD (by kernel_rfl) (by kernel_rfl) rfl (.no 1 174 true found_81 rfl rfl rfl rfl) rfl (fun hg _ => q_fieldAddr (a := a86) (off := 0) rfl Try.underlying47 rfl rfl ok3 (by decide) (gvb_yes hg)) ?_
                    refine rd_gpure (i := 7) (g := (!found_81)) (d := (some 180)) hD (by kernel_rfl) (by kernel_rfl) rfl (.no 1 174 true found_81 rfl rfl rfl rfl) rfl (fun hg _ => q_move (v := tSlc.enc (r38)) rfl rfl) ?_
                    refine rd_gpure (i := 8) (g := (!found_81)) (d := (some 181)) hD (by kernel_rfl) (by kernel_rfl) rfl (.no 1 174 true found_81 rfl rfl rfl rfl) rfl (fun hg _ => q_move (v := .int .i64 (i_78)) rfl rfl) ?_
                    obtain ⟨a87, ha87, h⟩ := h
                    refine rd_gpure (i := 9) (g := (!found_81)) (d := (some 182)) hD (by kernel_rfl) (by kernel_rfl) rfl (.no 1 174 true found_81 rfl rfl rfl rfl) rfl (fun hg _ => q_indexAddr (s := r38) (i := i_78) rfl Try.underlying23 ok47 (gvb_yes hg) (gvb_yes hg) (ha87 hg)) ?_
                    refine rd_gpure (i := 10) (g := (!found_81)) (d := (some 183)) hD (by kernel_rfl) (by kernel_rfl) rfl (.no 1 174 true found_81 rfl rfl rfl rfl) rfl (fun hg _ => q_fieldAddr (a := a87) (off := 0) rfl Try.underlying47 rfl rfl ok3 (by decide) (gvb_yes hg)) ?_
                    obtain ⟨x88, hx88, h⟩ := h
                    refine rd_gread (i := 6) (g := (!found_81)) (d := (some 179)) (fun W => (RdAt (tInt .i64) (a86.add 0) W) x88) hD (by kernel_rfl) (by kernel_rfl) rfl (.no 1 174 true found_81 rfl rfl rfl rfl) rfl (fun hg W hr => q_load (T := (tInt .i64)) (u := x88) (a := (a86.add 0)) rfl ok3 (gvb_yes hg) hr) hx88 ?_
                    obtain ⟨x89, hx89, h⟩ := h
                    refine rd_gread (i := 11) (g := (!found_81)) (d := (some 184)) (fun W => (RdAt (tInt .i64) (a87.add 0) W) x89) hD (by kernel_rfl) (by kernel_rfl) rfl (.no 1 174 true found_81 rfl rfl rfl rfl) rfl (fun hg W hr => q_load (T := (tInt .i64)) (u := x89) (a := (a87.add 0)) rfl ok3 (gvb_yes hg) hr) hx89 ?_
                    refine rd_gpure (i := 12) (g := (!found_81)) (d := (some 185)) hD (by kernel_rfl) (by kernel_rfl) rfl (.no 1 174 true found_81 rfl rfl rfl rfl) rfl (fun hg _ => q_eql (a := x88) (b := x89) rfl (gvb_yes hg) (gvb_yes hg)) ?_
                    refine rd_gpure (i := 13) (g := (!found_81)) (d := (some 186)) hD (by kernel_rfl) (by kernel_rfl) rfl (.no 1 174 true found_81 rfl rfl rfl rfl) rfl (fun hg _ => q_move (v := .bool ((x88 == x89))) rfl (gvb_yes hg)) ?_
                    refine rd_gpure (i := 14) (g := ((!found_81) && (x88 == x89))) (d := (some 187)) hD (by kernel_rfl) (by kernel_rfl) rfl (.yes 13 186 (!found_81) (x88 == x89) rfl rfl rfl rfl) rfl (fun hg _ => q_move (v := tSlc.enc (r77)) rfl rfl) ?_
                    refine rd_gpure (i := 15) (g := ((!found_81) && (x88 == x89))) (d := (some 188)) hD (by kernel_rfl) (by kernel_rfl) rfl (.yes 13 186 (!found_81) (x88 == x89) rfl rfl rfl rfl) rfl (fun hg _ => q_move (v := .int .i64 (k_82)) rfl rfl) ?_
                    obtain ⟨a90, ha90, h⟩ := h
                    refine rd_gpure (i := 16) (g := ((!found_81) && (x88 == x89))) (d := (some 189)) hD (by kernel_rfl) (by kernel_rfl) rfl (.yes 13 186 (!found_81) (x88 == x89) rfl rfl rfl rfl) rfl (fun hg _ => q_indexAddr (s := r77) (i := k_82) rfl Try.underlying23 ok47 (gvb_yes hg) (gvb_yes hg) (ha90 hg)) ?_
                    refine rd_gpure (i := 18) (g := ((!found_81) && (x88 == x89))) (d := (some 191)) hD (by kernel_rfl) (by kernel_rfl) rfl (.yes 13 186 (!found_81) (x88 == x89) rfl rfl rfl rfl) rfl (fun hg _ => q_move (v := tSlc.enc (r38)) rfl rfl) ?_
                    refine rd_gpure (i := 19) (g := ((!found_81) && (x88 == x89))) (d := (some 192)) hD (by kernel_rfl) (by kernel_rfl) rfl (.yes 13 186 (!found_81) (x88 == x89) rfl rfl rfl rfl) rfl (fun hg _ => q_move (v := .int .i64 (i_78)) rfl rfl) ?_
                    obtain ⟨a91, ha91, h⟩ := h
                    refine rd_gpure (i := 20) (g := ((!found_81) && (x88 == x89))) (d := (some 193)) hD (by kernel_rfl) (by kernel_rfl) rfl (.yes 13 186 (!found_81) (x88 == x89) rfl rfl rfl rfl) rfl (fun hg _ => q_indexAddr (s := r38) (i := i_78) rfl Try.underlying23 ok47 (gvb_yes hg) (gvb_yes hg) (ha91 hg)) ?_
                    obtain ⟨x92, hx92, h⟩ := h
                    refine rd_gread (i := 17) (g := ((!found_81) && (x88 == x89))) (d := (some 190)) (fun W => (RdAt T46 a90 W) x92) hD (by kernel_rfl) (by kernel_rfl) rfl (.yes 13 186 (!found_81) (x88 == x89) rfl rfl rfl rfl) rfl (fun hg W hr => q_load (T := T46) (u := x92) (a := a90) rfl ok47 (gvb_yes hg) hr) hx92 ?_
                    obtain ⟨x93, hx93, h⟩ := h
                    refine rd_gread (i := 21) (g := ((!found_81) && (x88 == x89))) (d := (some 194)) (fun W => (RdAt T46 a91 W) x93) hD (by kernel_rfl) (by kernel_rfl) rfl (.yes 13 186 (!found_81) (x88 == x89) rfl rfl rfl rfl) rfl (fun hg W hr => q_load (T := T46) (u := x93) (a := a91) rfl ok47 (gvb_yes hg) hr) hx93 ?_
                    refine rd_gpure (i := 22) (g := ((!found_81) && (x88 == x89))) (d := (some 195)) hD (by kernel_rfl) (by kernel_rfl) rfl (.yes 13 186 (!found_81) (x88 == x89) rfl rfl rfl rfl) rfl (fun hg _ => q_eqT (r := (S46.eqb x92 x93)) rfl (eq47 x92 x93) (gvb_yes hg) (gvb_yes hg)) ?_
                    refine rd_gpure (i := 23) (g := ((!found_81) && (x88 == x89))) (d := (some 196)) hD (by kernel_rfl) (by kernel_rfl) rfl (.yes 13 186 (!found_81) (x88 == x89) rfl rfl rfl rfl) rfl (fun hg _ => q_move (v := .bool ((S46.eqb x92 x93))) rfl (gvb_yes hg)) ?_
                    refine rd_gpure (i := 24) (g := (((!found_81) && (x88 == x89)) && (!(S46.eqb x92 x93)))) (d := (some 197)) hD (by kernel_rfl) (by kernel_rfl) rfl (.no 23 196 ((!found_81) && (x88 == x89)) (S46.eqb x92 x93) rfl rfl rfl rfl) rfl (fun hg _ => q_move (v := tSlc.enc (r77)) rfl rfl) ?_
                    refine rd_gpure (i := 25) (g := (((!found_81) && (x88 == x89)) && (!(S46.eqb x92 x93)))) (d := (some 198)) hD (by kernel_rfl) (by kernel_rfl) rfl (.no 23 196 ((!found_81) && (x88 == x89)) (S46.eqb x92 x93) rfl rfl rfl rfl) rfl (fun hg _ => q_move (v := .int .i64 (k_82)) rfl rfl) ?_
                    obtain ⟨a94, ha94, h⟩ := h
                    refine rd_gpure (i := 26) (g := (((!found_81) && (x88 == x89)) && (!(S46.eqb x92 x93)))) (d := (some 199)) hD (by kernel_rfl) (by kernel_rfl) rfl (.no 23 196 ((!found_81) && (x88 == x89)) (S46.eqb x92 x93) rfl rfl rfl rfl) rfl (fun hg _ => q_indexAddr (s := r77) (i := k_82) rfl Try.underlying23 ok47 (gvb_yes hg) (gvb_yes hg) (ha94 hg)) ?_
                    refine rd_gpure (i := 27) (g := (((!found_81) && (x88 == x89)) && (!(S46.eqb x92 x93)))) (d := (some 200)) hD (by kernel_rfl) (by kernel_rfl) rfl (.no 23 196 ((!found_81) && (x88 == x89)) (S46.eqb x92 x93) rfl rfl rfl rfl) rfl (fun hg _ => q_fieldAddr (a := a94) (off := 1) rfl Try.underlying47 rfl rfl ok2 (by decide) (gvb_yes hg)) ?_
                    refine rd_gpure (i := 29) (g := (((!found_81) && (x88 == x89)) && (!(S46.eqb x92 x93)))) (d := (some 202)) hD (by kernel_rfl) (by kernel_rfl) rfl (.no 23 196 ((!found_81) && (x88 == x89)) (S46.eqb x92 x93) rfl rfl rfl rfl) rfl (fun hg _ => q_move (v := tSlc.enc (r38)) rfl rfl) ?_
                    refine rd_gpure (i := 30) (g := (((!found_81) && (x88 == x89)) && (!(S46.eqb x92 x93)))) (d := (some 203)) hD (by kernel_rfl) (by kernel_rfl) rfl (.no 23 196 ((!found_81) && (x88 == x89)) (S46.eqb x92 x93) rfl rfl rfl rfl) rfl (fun hg _ => q_move (v := .int .i64 (i_78)) rfl rfl) ?_
                    obtain ⟨a95, ha95, h⟩ := h
                    refine rd_gpure (i := 31) (g := (((!found_81) && (x88 == x89)) && (!(S46.eqb x92 x93)))) (d := (some 204)) hD (by kernel_rfl) (by kernel_rfl) rfl (.no 23 196 ((!found_81) && (x88 == x89)) (S46.eqb x92 x93) rfl rfl rfl rfl) rfl (fun hg _ => q_indexAddr (s := r38) (i := i_78) rfl Try.underlying23 ok47 (gvb_yes hg) (gvb_yes hg) (ha95 hg)) ?_
                    refine rd_gpure (i := 32) (g := (((!found_81) && (x88 == x89)) && (!(S46.eqb x92 x93)))) (d := (some 205)) hD (by kernel_rfl) (by kernel_rfl) rfl (.no 23 196 ((!found_81) && (x88 == x89)) (S46.eqb x92 x93) rfl rfl rfl rfl) rfl (fun hg _ => q_fieldAddr (a := a95) (off := 1) rfl Try.underlying47 rfl rfl ok2 (by decide) (gvb_yes hg)) ?_
                    obtain ⟨x96, hx96, h⟩ := h
                    refine rd_gread (i := 28) (g := (((!found_81) && (x88 == x89)) && (!(S46.eqb x92 x93)))) (d := (some 201)) (fun W => (RdAt (tInt .i64) (a94.add 1) W) x96) hD (by kernel_rfl) (by kernel_rfl) rfl (.no 23 196 ((!found_81) && (x88 == x89)) (S46.eqb x92 x93) rfl rfl rfl rfl) rfl (fun hg W hr => q_load (T := (tInt .i64)) (u := x96) (a := (a94.add 1)) rfl ok2 (gvb_yes hg) hr) hx96 ?_
                    obtain ⟨x97, hx97, h⟩ := h
                    refine rd_gread (i := 33) (g := (((!found_81) && (x88 == x89)) && (!(S46.eqb x92 x93)))) (d := (some 206)) (fun W => (RdAt (tInt .i64) (a95.add 1) W) x97) hD (by kernel_rfl) (by kernel_rfl) rfl (.no 23 196 ((!found_81) && (x88 == x89)) (S46.eqb x92 x93) rfl rfl rfl rfl) rfl (fun hg W hr => q_load (T := (tInt .i64)) (u := x97) (a := (a95.add 1)) rfl ok2 (gvb_yes hg) hr) hx97 ?_
                    refine rd_gpure (i := 34) (g := (((!found_81) && (x88 == x89)) && (!(S46.eqb x92 x93)))) (d := (some 207)) hD (by kernel_rfl) (by kernel_rfl) rfl (.no 23 196 ((!found_81) && (x88 == x89)) (S46.eqb x92 x93) rfl rfl rfl rfl) rfl (fun hg _ => q_gtr (a := x96) (b := x97) rfl (gvb_yes hg) (gvb_yes hg)) ?_
                    refine rd_gpure (i := 35) (g := ((!found_81) && (x88 == x89))) (d := (some 208)) hD (by kernel_rfl) (by kernel_rfl) rfl (.yes 13 186 (!found_81) (x88 == x89) rfl rfl rfl rfl) rfl (fun hg _ => q_pickNF (g0 := ((!found_81) && (x88 == x89))) (a := (S46.eqb x92 x93)) (c := (decide (x96 > x97))) hg rfl rfl rfl rfl) ?_
                    refine rd_gpure (i := 36) (g := (!found_81)) (d := (some 209)) hD (by kernel_rfl) (by kernel_rfl) rfl (.no 1 174 true found_81 rfl rfl rfl rfl) rfl (fun hg _ => q_pickNT (g0 := (!found_81)) (a := (x88 == x89)) (b := ((S46.eqb x92 x93) || (decide (x96 > x97)))) hg rfl rfl rfl rfl) ?_
                    refine rp 37 210 hD rfl rfl rfl (fun _ => q_pickGF (a := found_81) (c := ((x88 == x89) && ((S46.eqb x92 x93) || (decide (x96 > x97))))) rfl rfl rfl rfl) ?_
                    refine rp 38 21 hD rfl rfl rfl (fun _ => q_assign (v := .bool ((found_81 || ((x88 == x89) && ((S46.eqb x92 x93) || (decide (x96 > x97))))))) rfl rfl) ?_
                    refine rd_nil (by kernel_rfl) ?_
                    refine wp_text [0, 1, 2] rfl ?_
                    refine rv 171 rfl rfl rfl (q_move (v := .int .i64 (k_82)) rfl rfl) ?_
                    refine rv 172 rfl rfl rfl (q_add (a := k_82) (b := (1 : Int)) rfl rfl rfl) ?_
                    refine rv 22 rfl rfl rfl (q_assign (v := .int .i64 ((IntKind.i64.wrap (k_82 + (1 : Int))))) rfl rfl) ?_
                    refine ro_nil ?_
                    exact ⟨((found_81 || ((x88 == x89) && ((S46.eqb x92 x93) || (decide (x96 > x97))))), (IntKind.i64.wrap (k_82 + (1 : Int)))), _, arr (upd_step (upd_step (upd_step (upd_step (upd_step (upd_step rfl rfl) rfl) rfl) rfl) rfl) rfl), h⟩
                  · refine wp_exit ?_
                    refine wp_seq ?_
                    refine wp_text [0, 1] rfl ?_
                    refine rv 211 rfl rfl rfl (q_move (v := .bool (found_81)) rfl rfl) ?_
                    refine rv 212 rfl rfl rfl (q_not (b := found_81) rfl rfl) ?_
                    refine ro_nil ?_
                    refine wp_if (b := (!found_81)) rfl h (fun hb98 h => ?_) (fun hb98 h => ?_)
                    · refine wp_seq ?_
                      refine wp_text [0] rfl ?_
                      refine rv 6 rfl rfl rfl (q_assign (v := .bool (false)) rfl rfl) ?_
                      refine ro_nil ?_
                      refine wp_ret ?_
                      exact ret_ok rfl (.cons (.tmp (v := .bool (false)) rfl) .nil) ⟨false, rfl, h⟩
                    · refine wp_skip ?_
                      refine wp_text [0, 1, 2] rfl ?_
                      refine rv 165 rfl rfl rfl (q_move (v := .int .i64 (i_78)) rfl rfl) ?_
                      refine rv 166 rfl rfl rfl (q_add (a := i_78) (b := (1 : Int)) rfl rfl rfl) ?_
                      refine rv 20 rfl rfl rfl (q_assign (v := .int .i64 ((IntKind.i64.wrap (i_78 + (1 : Int))))) rfl rfl) ?_
                      refine ro_nil ?_
                      exact ⟨((IntKind.i64.wrap (i_78 + (1 : Int)))), _, arr (upd_step (upd_step (upd_step (upd_step rfl rfl) rfl) rfl) rfl), h⟩
                · refine wp_exit ?_
                  refine wp_seq ?_
                  refine wp_text [0, 1, 2, 3, 4, 5] rfl ?_
                  refine rv 213 rfl rfl rfl (q_move (v := tSlc.enc (r77)) rfl rfl) ?_
                  refine rv 214 rfl rfl rfl (q_len (s := r77) rfl Try.underlying23 rfl) ?_
                  refine rv 215 rfl rfl rfl (q_move (v := tSlc.enc (r63)) rfl rfl) ?_
                  refine rv 216 rfl rfl rfl (q_len (s := r63) rfl Try.underlying23 rfl) ?_
                  refine rv 217 rfl rfl rfl (q_leq (a := (r77.len : Int)) (b := (r63.len : Int)) rfl rfl rfl) ?_
                  refine rv 6 rfl rfl rfl (q_assign (v := .bool ((decide ((r77.len : Int) ≤ (r63.len : Int))))) rfl rfl) ?_
                  refine ro_nil ?_
                  refine wp_ret ?_
                  exact ret_ok rfl (.cons (.tmp (v := .bool ((decide ((r77.len : Int) ≤ (r63.len : Int))))) rfl) .nil) ⟨(decide ((r77.len : Int) ≤ (r63.len : Int))), rfl, h⟩
            · refine ro_if (b := t_72) h (fun hb102 h => ?_) (fun hb102 h => ?_)
              · refine ro_bar (d := (some 154)) rfl (.by_ 12 false 153 t_72 rfl rfl rfl hb102) rfl ?_
                refine ro_bar (d := (some 155)) rfl (.by_ 12 false 153 t_72 rfl rfl rfl hb102) rfl ?_
                refine ro_bar (d := (some 156)) rfl (.by_ 12 false 153 t_72 rfl rfl rfl hb102) rfl ?_
                refine ro_bar (d := (some 157)) rfl (.by_ 12 false 153 t_72 rfl rfl rfl hb102) rfl ?_
                refine rv 158 rfl rfl rfl (q_pickT (v := .bool (true)) (b := t_72) rfl rfl hb102 rfl) ?_
                refine ro_nil ?_
                exact ⟨(true), _, arr (upd_step (upd_step (upd_step (upd_step rfl rfl) rfl) rfl) rfl), h⟩
              · refine ro_val (d := (some 154)) rfl (.by_ 12 false 153 t_72 rfl rfl rfl hb102) rfl (q_move (v := .pointer (r71.1)) rfl rfl) ?_
                refine ro_wp rfl (.by_ 12 false 153 t_72 rfl rfl rfl hb102) (wp_cl (d := (some 155)) rfl (q_call (k := 15) (l := [.pointer (r71.1)]) rfl ent15 rfl) h ?_)
                intro r104 w103 h
                refine ro_val (d := (some 156)) rfl (.by_ 12 false 153 t_72 rfl rfl rfl hb102) rfl (q_move (v := .int .i64 (r61)) rfl rfl) ?_
                refine ro_val (d := (some 157)) rfl (.by_ 12 false 153 t_72 rfl rfl rfl hb102) rfl (q_gtr (a := r104) (b := r61) rfl rfl rfl) ?_
                refine rv 158 rfl rfl rfl (q_pickF (v := .bool ((decide (r104 > r61)))) (b := t_72) rfl rfl hb102 rfl) ?_
                refine ro_nil ?_
                exact ⟨((decide (r104 > r61))), _, arr (upd_step (upd_step (upd_step (upd_step rfl rfl) rfl) rfl) rfl), h⟩
          · refine ro_if (b := ((r71.2 != (0 : Int)) || r71.1.isNone)) h (fun hb105 h => ?_) (fun hb105 h => ?_)
            · refine ro_bar (d := (some 148)) rfl (.by_ 6 false 147 ((r71.2 != (0 : Int)) || r71.1.isNone) rfl rfl rfl hb105) rfl ?_
              refine ro_bar (d := (some 149)) rfl (.by_ 6 false 147 ((r71.2 != (0 : Int)) || r71.1.isNone) rfl rfl rfl hb105) rfl ?_
              refine ro_bar (d := (some 150)) rfl (.by_ 6 false 147 ((r71.2 != (0 : Int)) || r71.1.isNone) rfl rfl rfl hb105) rfl ?_
              refine ro_bar (d := (some 151)) rfl (.by_ 6 false 147 ((r71.2 != (0 : Int)) || r71.1.isNone) rfl rfl rfl hb105) rfl ?_
              refine rv 152 rfl rfl rfl (q_pickT (v := .bool (true)) (b := ((r71.2 != (0 : Int)) || r71.1.isNone)) rfl rfl hb105 rfl) ?_
              refine ro_nil ?_
              exact ⟨(true), _, arr (upd_step (upd_step (upd_step (upd_step (upd_step rfl rfl) rfl) rfl) rfl) rfl), h⟩
            · refine ro_val (d := (some 148)) rfl (.by_ 6 false 147 ((r71.2 != (0 : Int)) || r71.1.isNone) rfl rfl rfl hb105) rfl (q_move (v := .pointer (r71.1)) rfl rfl) ?_
              refine ro_wp rfl (.by_ 6 false 147 ((r71.2 != (0 : Int)) || r71.1.isNone) rfl rfl rfl hb105) (wp_cl (d := (some 149)) rfl (q_call (k := 15) (l := [.pointer (r71.1)]) rfl ent15 rfl) h ?_)
              intro r107 w106 h
              refine ro_val (d := (some 150)) rfl (.by_ 6 false 147 ((r71.2 != (0 : Int)) || r71.1.isNone) rfl rfl rfl hb105) rfl (q_move (v := .int .i64 (r36)) rfl rfl) ?_
              refine ro_val (d := (some 151)) rfl (.by_ 6 false 147 ((r71.2 != (0 : Int)) || r71.1.isNone) rfl rfl rfl hb105) rfl (q_lss (a := r107) (b := r36) rfl rfl rfl) ?_
              refine rv 152 rfl rfl rfl (q_pickF (v := .bool ((decide (r107 < r36)))) (b := ((r71.2 != (0 : Int)) || r71.1.isNone)) rfl rfl hb105 rfl) ?_
              refine ro_nil ?_
              exact ⟨((decide (r107 < r36))), _, arr (upd_step (upd_step (upd_step (upd_step (upd_step rfl rfl) rfl) rfl) rfl) rfl), h⟩

end Go.Proofs.Ytjkmeooncmhonaa.Cf
