/- The characteristic formula of a law, and that it is. Printed by gen.py (own tool). -/
import Derived.Test.YtjkmeooncmhonaaFs
namespace Go.Proofs.Ytjkmeooncmhonaa.Cf
open Go
set_option maxRecDepth 100000
set_option maxHeartbeats 1000000
set_option linter.unusedVariables false
set_option linter.unusedSimpArgs false

-- moiety/moietylaw22.BallotRises
def F4_j4 (j_28 : Int) (k_31 : Int) (w32 : World) (K30 : Int × Int → World → Prop) (R : Bool → World → Prop) : Prop :=
  K30 (k_31, (IntKind.i64.wrap (j_28 + (1 : Int)))) w32
def F4_j5 (was_11 : Slc) (r24 : Slc) (k_27 : Int) (j_28 : Int) (t_33 : Bool) (w34 : World) (K30 : Int × Int → World → Prop) (R : Bool → World → Prop) : Prop :=
  if t_33 = true then (
    R false w34
  ) else (
    dr w34 fun w35 =>
    ex (fun x => (decide (k_27 < (was_11.len : Int))) = true → (IxA was_11 3 k_27) x) fun a36 =>
    ex (fun x => (decide (k_27 < (was_11.len : Int))) = true → (IxA r24 3 j_28) x) fun a37 =>
    ex (fun x => (decide (k_27 < (was_11.len : Int))) = true → (RdAt (tInt .i64) (a36.add 0) w35) x) fun x38 =>
    ex (fun x => (decide (k_27 < (was_11.len : Int))) = true → (RdAt (tInt .i64) (a37.add 0) w35) x) fun x39 =>
    if ((decide (k_27 < (was_11.len : Int))) && (x38 == x39)) = true then (
      dr w35 fun w40 =>
      ex (IxA r24 3 j_28) fun a41 =>
      ex (IxA was_11 3 k_27) fun a42 =>
      ex (RdAt (tInt .i64) (a41.add 1) w40) fun x43 =>
      ex (RdAt (tInt .i64) (a42.add 1) w40) fun x44 =>
      ex (fun x => (!(decide (x43 < x44))) = true → (IxA r24 3 j_28) x) fun a45 =>
      ex (fun x => (!(decide (x43 < x44))) = true → (IxA was_11 3 k_27) x) fun a46 =>
      ex (fun x => (!(decide (x43 < x44))) = true → (RdAt (tInt .i64) (a45.add 1) w40) x) fun x47 =>
      ex (fun x => (!(decide (x43 < x44))) = true → (RdAt (tInt .i64) (a46.add 1) w40) x) fun x48 =>
      ex (fun x => ((!(decide (x43 < x44))) && (x47 == x48)) = true → (IxA r24 3 j_28) x) fun a49 =>
      ex (fun x => ((!(decide (x43 < x44))) && (x47 == x48)) = true → (IxA was_11 3 k_27) x) fun a50 =>
      ex (fun x => ((!(decide (x43 < x44))) && (x47 == x48)) = true → (RdAt tStr (a49.add 2) w40) x) fun x51 =>
      ex (fun x => ((!(decide (x43 < x44))) && (x47 == x48)) = true → (RdAt tStr (a50.add 2) w40) x) fun x52 =>
      if ((decide (x43 < x44)) || ((x47 == x48) && (!(x51 == x52)))) = true then (
        R false w40
      ) else (
        F4_j4 j_28 (IntKind.i64.wrap (k_27 + (1 : Int))) w40 K30 R
      )
    ) else (
      F4_j4 j_28 k_27 w35 K30 R
    )
  )
def F4_l3 (r5 : ((Option Addr) × Int)) (was_11 : Slc) (i_12 : Int) (r24 : Slc) (k_27 : Int) (j_28 : Int) (w29 : World) (K14 : Int × Slc × Int → World → Prop) (K30 : Int × Int → World → Prop) (R : Bool → World → Prop) : Prop :=
  if (decide (j_28 < (r24.len : Int))) = true then (
    dr w29 fun w56 =>
    ex (fun x => (decide (j_28 > (0 : Int))) = true → (IxA r24 3 (IntKind.i64.wrap (j_28 - (1 : Int)))) x) fun a57 =>
    ex (fun x => (decide (j_28 > (0 : Int))) = true → (IxA r24 3 j_28) x) fun a58 =>
    ex (fun x => (decide (j_28 > (0 : Int))) = true → (RdAt (tInt .i64) (a57.add 0) w56) x) fun x59 =>
    ex (fun x => (decide (j_28 > (0 : Int))) = true → (RdAt (tInt .i64) (a58.add 0) w56) x) fun x60 =>
    if ((decide (j_28 > (0 : Int))) && (decide (x59 ≥ x60))) = true then (
      F4_j5 was_11 r24 k_27 j_28 true w56 K30 R
    ) else (
      ex (IxA r24 3 j_28) fun a62 =>
      ex (RdAt (tInt .i64) (a62.add 1) w56) fun x63 =>
      cl Try.prog 15 [.pointer (r5.1)] (tInt .i64) w56 fun r65 w64 =>
      kp ((fun x => (decide (j_28 > (0 : Int))) = true → (RdAt (tInt .i64) (a57.add 0) w64) x) x59) <|
      kp ((fun x => (decide (j_28 > (0 : Int))) = true → (RdAt (tInt .i64) (a58.add 0) w64) x) x60) <|
      kp ((RdAt (tInt .i64) (a62.add 1) w64) x63) <|
      F4_j5 was_11 r24 k_27 j_28 (decide (x63 > r65)) w64 K30 R
    )
  ) else (
    if (k_27 != (was_11.len : Int)) = true then (
      R false w29
    ) else (
      cl Try.prog 15 [.pointer (r5.1)] (tInt .i64) w29 fun r70 w69 =>
      K14 (r70, r24, (IntKind.i64.wrap (i_12 + (1 : Int)))) w69
    )
  )
def F4_j2 (r5 : ((Option Addr) × Int)) (promised_10 : Int) (was_11 : Slc) (i_12 : Int) (w22 : World) (K14 : Int × Slc × Int → World → Prop) (R : Bool → World → Prop) : Prop :=
  cl Try.prog 17 [.pointer (r5.1)] tSlc w22 fun r24 w23 =>
  cl Try.prog 15 [.pointer (r5.1)] (tInt .i64) w23 fun r26 w25 =>
  if (decide (r26 < promised_10)) = true then (
    R false w25
  ) else (
    lp (fun (s : Int × Int) w K => F4_l3 r5 was_11 i_12 r24 s.1 s.2 w K14 K R) ((0 : Int), (0 : Int)) w25
  )
def F4_j6 (r5 : ((Option Addr) × Int)) (promised_10 : Int) (was_11 : Slc) (i_12 : Int) (t_78 : Bool) (w79 : World) (K14 : Int × Slc × Int → World → Prop) (R : Bool → World → Prop) : Prop :=
  if t_78 = true then (
    R false w79
  ) else (
    F4_j2 r5 promised_10 was_11 i_12 w79 K14 R
  )
def F4_j7 (r5 : ((Option Addr) × Int)) (promised_10 : Int) (was_11 : Slc) (i_12 : Int) (t_105 : Bool) (w106 : World) (K14 : Int × Slc × Int → World → Prop) (R : Bool → World → Prop) : Prop :=
  if t_105 = true then (
    R false w106
  ) else (
    F4_j2 r5 promised_10 was_11 i_12 w106 K14 R
  )
def F4_l1 (l_1 : Slc) (r5 : ((Option Addr) × Int)) (promised_10 : Int) (was_11 : Slc) (i_12 : Int) (w13 : World) (K14 : Int × Slc × Int → World → Prop) (R : Bool → World → Prop) : Prop :=
  if ((decide (i_12 < (l_1.len : Int))) && (decide (i_12 < (40 : Int)))) = true then (
    ex (IxA l_1 6 i_12) fun a15 =>
    ex (RdAt T38 a15 w13) fun x16 =>
    cl Try.prog 13 [T38.enc (x16)] T38 w13 fun r18 w17 =>
    nw 39 T38 Z38 w17 fun a19 w20 =>
    st T38 a19 r18 w20 fun w21 =>
    ex (RdAt (tInt .i64) (a19.add 0) w21) fun x74 =>
    if (x74 == (0 : Int)) = true then (
      ex (RdAt (tInt .i64) (a19.add 3) w21) fun x75 =>
      cl Try.prog 14 [.pointer (r5.1), .int .i64 (x75)] (tTup2 tSlc (tInt .i64)) w21 fun r77 w76 =>
      dr w76 fun w81 =>
      ex (RdAt (tInt .i64) (a19.add 3) w81) fun x82 =>
      ex (fun x => (decide (x82 ≥ (1 : Int))) = true → (RdAt (tInt .i64) (a19.add 3) w81) x) fun x83 =>
      ex (fun x => ((decide (x82 ≥ (1 : Int))) && (decide (x83 ≤ (1099511627776 : Int)))) = true → (RdAt (tInt .i64) (a19.add 3) w81) x) fun x84 =>
      if (!((r77.2 == (0 : Int)) == (((decide (x82 ≥ (1 : Int))) && (decide (x83 ≤ (1099511627776 : Int)))) && (decide (x84 ≥ promised_10))))) = true then (
        F4_j6 r5 promised_10 was_11 i_12 true w81 K14 R
      ) else (
        if (r77.2 == (0 : Int)) = true then (
          cl Try.prog 9 [tSlc.enc (r77.1), tSlc.enc (was_11)] tBool w81 fun r88 w87 =>
          kp ((RdAt (tInt .i64) (a19.add 3) w87) x82) <|
          kp ((fun x => (decide (x82 ≥ (1 : Int))) = true → (RdAt (tInt .i64) (a19.add 3) w87) x) x83) <|
          kp ((fun x => ((decide (x82 ≥ (1 : Int))) && (decide (x83 ≤ (1099511627776 : Int)))) = true → (RdAt (tInt .i64) (a19.add 3) w87) x) x84) <|
          if (!r88) = true then (
            F4_j6 r5 promised_10 was_11 i_12 true w87 K14 R
          ) else (
            ex (RdAt (tInt .i64) (a19.add 3) w87) fun x93 =>
            cl Try.prog 15 [.pointer (r5.1)] (tInt .i64) w87 fun r95 w94 =>
            kp ((RdAt (tInt .i64) (a19.add 3) w94) x82) <|
            kp ((fun x => (decide (x82 ≥ (1 : Int))) = true → (RdAt (tInt .i64) (a19.add 3) w94) x) x83) <|
            kp ((fun x => ((decide (x82 ≥ (1 : Int))) && (decide (x83 ≤ (1099511627776 : Int)))) = true → (RdAt (tInt .i64) (a19.add 3) w94) x) x84) <|
            kp ((RdAt (tInt .i64) (a19.add 3) w94) x93) <|
            F4_j6 r5 promised_10 was_11 i_12 (r95 != x93) w94 K14 R
          )
        ) else (
          F4_j6 r5 promised_10 was_11 i_12 false w81 K14 R
        )
      )
    ) else (
      ex (RdAt (tInt .i64) (a19.add 3) w21) fun x100 =>
      ex (RdAt (tInt .i64) (a19.add 2) w21) fun x101 =>
      ex (RdAt tStr (a19.add 4) w21) fun x102 =>
      cl Try.prog 16 [.pointer (r5.1), .int .i64 (x100), .int .i64 (x101), .string ⟨(x102).toArray⟩] (tInt .i64) w21 fun r104 w103 =>
      dr w103 fun w108 =>
      if (r104 == (0 : Int)) = true then (
        ex (RdAt (tInt .i64) (a19.add 3) w108) fun x110 =>
        if (decide (x110 < promised_10)) = true then (
          F4_j7 r5 promised_10 was_11 i_12 true w108 K14 R
        ) else (
          ex (RdAt (tInt .i64) (a19.add 3) w108) fun x112 =>
          cl Try.prog 15 [.pointer (r5.1)] (tInt .i64) w108 fun r114 w113 =>
          kp ((RdAt (tInt .i64) (a19.add 3) w113) x110) <|
          kp ((RdAt (tInt .i64) (a19.add 3) w113) x112) <|
          F4_j7 r5 promised_10 was_11 i_12 (r114 != x112) w113 K14 R
        )
      ) else (
        F4_j7 r5 promised_10 was_11 i_12 false w108 K14 R
      )
    )
  ) else (
    R true w13
  )
def F4 (l_1 : Slc) (w : World) (R : Bool → World → Prop) : Prop :=
  cl Try.prog 11 [.int .i64 ((1 : Int))] (tTup2 tPtr (tInt .i64)) w fun r3 w2 =>
  cl Try.prog 12 [.pointer (r3.1), .int .i64 ((0 : Int))] (tTup2 tPtr (tInt .i64)) w2 fun r5 w4 =>
  cl Try.prog 7 [] tBool w4 fun r7 w6 =>
  if ((((!r7) || (r3.2 != (0 : Int))) || (r5.2 != (0 : Int))) || r5.1.isNone) = true then (
    R false w6
  ) else (
    nwS 47 T46 ([] : List S46) w6 fun a8 w9 =>
    lp (fun (s : Int × Slc × Int) w K => F4_l1 l_1 r5 s.1 s.2.1 s.2.2 w K R) ((0 : Int), (⟨some a8, 0, 0⟩ : Slc), (0 : Int)) w9
  )
theorem F4_ok {l_1 : Slc} {w : World} {R : Bool → World → Prop} (h : F4 l_1 w R) : cl Try.prog 4 [tSlc.enc (l_1)] tBool w R := by
  unfold F4 at h
  refine calls_start 224 Try.func4 rfl rfl (Nat.le_of_ble_eq_true rfl) ?_
  refine wp_seq ?_
  refine wp_text [0] rfl ?_
  refine rv 2 rfl rfl rfl (q_assign (v := .bool (false)) rfl rfl) ?_
  refine ro_nil ?_
  refine wp_seq ?_
  refine wp_text [0, 1, 2, 3, 4, 5] rfl ?_
  refine ro_wp rfl (.free rfl) (wp_cl (d := (some 18)) rfl (q_call (k := 11) (l := [.int .i64 ((1 : Int))]) rfl ent11 rfl) h ?_)
  intro r3 w2 h
  refine rv 17 rfl rfl rfl (q_move (v := (tTup2 tPtr (tInt .i64)).enc (r3)) rfl rfl) ?_
  refine rv 19 rfl rfl rfl (q_extract (vs := #[.pointer (r3.1), .int .i64 (r3.2)]) (v := .pointer (r3.1)) rfl rfl rfl) ?_
  refine rv 20 rfl rfl rfl (q_extract (vs := #[.pointer (r3.1), .int .i64 (r3.2)]) (v := .int .i64 (r3.2)) rfl rfl rfl) ?_
  refine rv 3 rfl rfl rfl (q_assign (v := .pointer (r3.1)) rfl rfl) ?_
  refine rv 4 rfl rfl rfl (q_assign (v := .int .i64 (r3.2)) rfl rfl) ?_
  refine ro_nil ?_
  refine wp_seq ?_
  refine wp_text [0, 1, 2, 3, 4, 5, 6] rfl ?_
  refine rv 22 rfl rfl rfl (q_move (v := .pointer (r3.1)) rfl rfl) ?_
  refine ro_wp rfl (.free rfl) (wp_cl (d := (some 23)) rfl (q_call (k := 12) (l := [.pointer (r3.1), .int .i64 ((0 : Int))]) rfl ent12 rfl) h ?_)
  intro r5 w4 h
  refine rv 21 rfl rfl rfl (q_move (v := (tTup2 tPtr (tInt .i64)).enc (r5)) rfl rfl) ?_
  refine rv 24 rfl rfl rfl (q_extract (vs := #[.pointer (r5.1), .int .i64 (r5.2)]) (v := .pointer (r5.1)) rfl rfl rfl) ?_
  refine rv 25 rfl rfl rfl (q_extract (vs := #[.pointer (r5.1), .int .i64 (r5.2)]) (v := .int .i64 (r5.2)) rfl rfl rfl) ?_
  refine rv 5 rfl rfl rfl (q_assign (v := .pointer (r5.1)) rfl rfl) ?_
  refine rv 6 rfl rfl rfl (q_assign (v := .int .i64 (r5.2)) rfl rfl) ?_
  refine ro_nil ?_
  refine wp_seq ?_
  refine wp_seq ?_
  refine wp_text [0, 1, 2, 3, 4, 5, 6, 7, 8, 9, 10, 11, 12, 13] rfl ?_
  refine ro_wp rfl (.free rfl) (wp_cl (d := (some 26)) rfl (q_call (k := 7) (l := []) rfl ent7 rfl) h ?_)
  intro r7 w6 h
  refine rv 27 rfl rfl rfl (q_not (b := r7) rfl rfl) ?_
  refine rv 28 rfl rfl rfl (q_move (v := .bool ((!r7))) rfl rfl) ?_
  refine ro_gval (g := (!(!r7))) (d := (some 29)) rfl (.no 2 28 true (!r7) rfl rfl rfl rfl) rfl (fun hg => q_move (v := .int .i64 (r3.2)) rfl rfl) ?_
  refine ro_gval (g := (!(!r7))) (d := (some 30)) rfl (.no 2 28 true (!r7) rfl rfl rfl rfl) rfl (fun hg => q_neq (a := r3.2) (b := (0 : Int)) rfl (gvb_yes hg) rfl) ?_
  refine rv 31 rfl rfl rfl (q_pickGF (a := (!r7)) (c := (r3.2 != (0 : Int))) rfl rfl rfl rfl) ?_
  refine rv 32 rfl rfl rfl (q_move (v := .bool (((!r7) || (r3.2 != (0 : Int))))) rfl rfl) ?_
  refine ro_gval (g := (!((!r7) || (r3.2 != (0 : Int))))) (d := (some 33)) rfl (.no 6 32 true ((!r7) || (r3.2 != (0 : Int))) rfl rfl rfl rfl) rfl (fun hg => q_move (v := .int .i64 (r5.2)) rfl rfl) ?_
  refine ro_gval (g := (!((!r7) || (r3.2 != (0 : Int))))) (d := (some 34)) rfl (.no 6 32 true ((!r7) || (r3.2 != (0 : Int))) rfl rfl rfl rfl) rfl (fun hg => q_neq (a := r5.2) (b := (0 : Int)) rfl (gvb_yes hg) rfl) ?_
  refine rv 35 rfl rfl rfl (q_pickGF (a := ((!r7) || (r3.2 != (0 : Int)))) (c := (r5.2 != (0 : Int))) rfl rfl rfl rfl) ?_
  refine rv 36 rfl rfl rfl (q_move (v := .bool ((((!r7) || (r3.2 != (0 : Int))) || (r5.2 != (0 : Int))))) rfl rfl) ?_
  refine ro_gval (g := (!(((!r7) || (r3.2 != (0 : Int))) || (r5.2 != (0 : Int))))) (d := (some 37)) rfl (.no 10 36 true (((!r7) || (r3.2 != (0 : Int))) || (r5.2 != (0 : Int))) rfl rfl rfl rfl) rfl (fun hg => q_move (v := .pointer (r5.1)) rfl rfl) ?_
  refine ro_gval (g := (!(((!r7) || (r3.2 != (0 : Int))) || (r5.2 != (0 : Int))))) (d := (some 38)) rfl (.no 10 36 true (((!r7) || (r3.2 != (0 : Int))) || (r5.2 != (0 : Int))) rfl rfl rfl rfl) rfl (fun hg => q_eqP0 (a := r5.1) rfl Try.underlying34 (gvb_yes hg) rfl) ?_
  refine rv 39 rfl rfl rfl (q_pickGF (a := (((!r7) || (r3.2 != (0 : Int))) || (r5.2 != (0 : Int)))) (c := r5.1.isNone) rfl rfl rfl rfl) ?_
  refine ro_nil ?_
  refine wp_if (b := ((((!r7) || (r3.2 != (0 : Int))) || (r5.2 != (0 : Int))) || r5.1.isNone)) rfl h (fun hb119 h => ?_) (fun hb119 h => ?_)
  · refine wp_seq ?_
    refine wp_text [0] rfl ?_
    refine rv 2 rfl rfl rfl (q_assign (v := .bool (false)) rfl rfl) ?_
    refine ro_nil ?_
    refine wp_ret ?_
    exact ret_ok rfl (.cons (.tmp (v := .bool (false)) rfl) .nil) ⟨false, rfl, h⟩
  · refine wp_skip ?_
    refine wp_seq ?_
    refine wp_text [0] rfl ?_
    refine rv 7 rfl rfl rfl (q_assign (v := .int .i64 ((0 : Int))) rfl rfl) ?_
    refine ro_nil ?_
    refine wp_seq ?_
    refine wp_text [0, 1] rfl ?_
    obtain ⟨a8, w9, ha8, hw9, h⟩ := nwS_open h
    refine rv 40 rfl rfl rfl (q_row0 (T := T46) rfl Try.underlying23 ok47 inf47 ha8 hw9) ?_
    refine rv 8 rfl rfl rfl (q_assign (v := tSlc.enc ((⟨some a8, 0, 0⟩ : Slc))) rfl rfl) ?_
    refine ro_nil ?_
    refine wp_seq ?_
    refine wp_seq ?_
    refine wp_text [0] rfl ?_
    refine rv 9 rfl rfl rfl (q_assign (v := .int .i64 ((0 : Int))) rfl rfl) ?_
    refine ro_nil ?_
    refine wp_block ?_
    refine loop_at (σ := Int × Slc × Int) (fr := fun g (s : Int × Slc × Int) => upd (upd (upd (upd (upd (g) 0 (tSlc.enc (l_1))) 5 (.pointer (r5.1))) 7 (.int .i64 (s.1))) 8 (tSlc.enc (s.2.1))) 9 (.int .i64 (s.2.2))) (s0 := ((0 : Int), (⟨some a8, 0, 0⟩ : Slc), (0 : Int))) (upd_step (upd_step (upd_step (upd_step (upd_step rfl rfl) rfl) rfl) rfl) rfl) h ?_
    rintro ⟨promised_10, was_11, i_12⟩ g w13 K14 h
    unfold F4_l1 at h
    refine wp_seq ?_
    refine wp_seq ?_
    refine wp_text [0, 1, 2, 3, 4, 5, 6, 7] rfl ?_
    refine rv 41 rfl rfl rfl (q_move (v := .int .i64 (i_12)) rfl rfl) ?_
    refine rv 42 rfl rfl rfl (q_move (v := tSlc.enc (l_1)) rfl rfl) ?_
    refine rv 43 rfl rfl rfl (q_len (s := l_1) rfl Try.underlying29 rfl) ?_
    refine rv 44 rfl rfl rfl (q_lss (a := i_12) (b := (l_1.len : Int)) rfl rfl rfl) ?_
    refine rv 45 rfl rfl rfl (q_move (v := .bool ((decide (i_12 < (l_1.len : Int))))) rfl rfl) ?_
    refine ro_gval (g := (decide (i_12 < (l_1.len : Int)))) (d := (some 46)) rfl (.yes 4 45 true (decide (i_12 < (l_1.len : Int))) rfl rfl rfl rfl) rfl (fun hg => q_move (v := .int .i64 (i_12)) rfl rfl) ?_
    refine ro_gval (g := (decide (i_12 < (l_1.len : Int)))) (d := (some 47)) rfl (.yes 4 45 true (decide (i_12 < (l_1.len : Int))) rfl rfl rfl rfl) rfl (fun hg => q_lss (a := i_12) (b := (40 : Int)) rfl (gvb_yes hg) rfl) ?_
    refine rv 48 rfl rfl rfl (q_pickGT (a := (decide (i_12 < (l_1.len : Int)))) (b := (decide (i_12 < (40 : Int)))) rfl rfl rfl rfl) ?_
    refine ro_nil ?_
    refine wp_if (b := ((decide (i_12 < (l_1.len : Int))) && (decide (i_12 < (40 : Int))))) rfl h (fun hb118 h => ?_) (fun hb118 h => ?_)
    · refine wp_skip ?_
      refine wp_seq ?_
      refine wp_block ?_
      refine wp_seq ?_
      refine wp_text [0, 1, 2, 3, 4, 5, 6] rfl ?_
      refine rv 51 rfl rfl rfl (q_move (v := tSlc.enc (l_1)) rfl rfl) ?_
      refine rv 52 rfl rfl rfl (q_move (v := .int .i64 (i_12)) rfl rfl) ?_
      obtain ⟨a15, ha15, h⟩ := h
      refine rv 53 rfl rfl rfl (q_indexAddr (s := l_1) (i := i_12) rfl Try.underlying29 ok39 rfl rfl ha15) ?_
      obtain ⟨x16, hx16, h⟩ := h
      refine rv 54 rfl rfl rfl (q_load (T := T38) (u := x16) (a := a15) rfl ok39 rfl hx16) ?_
      refine ro_wp rfl (.free rfl) (wp_cl (d := (some 55)) rfl (q_call (k := 13) (l := [T38.enc (x16)]) rfl ent13 rfl) h ?_)
      intro r18 w17 h
      obtain ⟨a19, w20, ha19, hw20, h⟩ := nw_open h
      refine rv 10 rfl rfl rfl (q_alloc (u := Z38) rfl ok39 inf39 ha19 hw20) ?_
      obtain ⟨w21, hw21, hrw21, h⟩ := st_open h
      refine ro_skip (d := none) rfl (.free rfl) rfl (q_store (T := T38) (u := r18) (a := a19) rfl ok39 rfl rfl hrw21 hw21) ?_
      refine ro_nil ?_
      refine seq_join (σ := Unit) (J := fun (s : Unit) w => F4_j2 r5 promised_10 was_11 i_12 w K14 R) (fr := fun g (s : Unit) => upd (upd (upd (upd (upd (g) 0 (tSlc.enc (l_1))) 5 (.pointer (r5.1))) 7 (.int .i64 (promised_10))) 8 (tSlc.enc (was_11))) 9 (.int .i64 (i_12))) ?_ ?_
      · rintro ⟨⟩ g w22 h
        unfold F4_j2 at h
        refine wp_seq ?_
        refine wp_text [0, 1, 2] rfl ?_
        refine rv 123 rfl rfl rfl (q_move (v := .pointer (r5.1)) rfl rfl) ?_
        refine ro_wp rfl (.free rfl) (wp_cl (d := (some 124)) rfl (q_call (k := 17) (l := [.pointer (r5.1)]) rfl ent17 rfl) h ?_)
        intro r24 w23 h
        refine rv 14 rfl rfl rfl (q_assign (v := tSlc.enc (r24)) rfl rfl) ?_
        refine ro_nil ?_
        refine wp_seq ?_
        refine wp_seq ?_
        refine wp_text [0, 1, 2, 3] rfl ?_
        refine rv 125 rfl rfl rfl (q_move (v := .pointer (r5.1)) rfl rfl) ?_
        refine ro_wp rfl (.free rfl) (wp_cl (d := (some 126)) rfl (q_call (k := 15) (l := [.pointer (r5.1)]) rfl ent15 rfl) h ?_)
        intro r26 w25 h
        refine rv 127 rfl rfl rfl (q_move (v := .int .i64 (promised_10)) rfl rfl) ?_
        refine rv 128 rfl rfl rfl (q_lss (a := r26) (b := promised_10) rfl rfl rfl) ?_
        refine ro_nil ?_
        refine wp_if (b := (decide (r26 < promised_10))) rfl h (fun hb73 h => ?_) (fun hb73 h => ?_)
        · refine wp_seq ?_
          refine wp_text [0] rfl ?_
          refine rv 2 rfl rfl rfl (q_assign (v := .bool (false)) rfl rfl) ?_
          refine ro_nil ?_
          refine wp_ret ?_
          exact ret_ok rfl (.cons (.tmp (v := .bool (false)) rfl) .nil) ⟨false, rfl, h⟩
        · refine wp_skip ?_
          refine wp_seq ?_
          refine wp_text [0] rfl ?_
          refine rv 15 rfl rfl rfl (q_assign (v := .int .i64 ((0 : Int))) rfl rfl) ?_
          refine ro_nil ?_
          refine wp_seq ?_
          refine wp_seq ?_
          refine wp_text [0] rfl ?_
          refine rv 16 rfl rfl rfl (q_assign (v := .int .i64 ((0 : Int))) rfl rfl) ?_
          refine ro_nil ?_
          refine wp_block ?_
          refine loop_at (σ := Int × Int) (fr := fun g (s : Int × Int) => upd (upd (upd (upd (upd (upd (upd (g) 0 (tSlc.enc (l_1))) 5 (.pointer (r5.1))) 8 (tSlc.enc (was_11))) 9 (.int .i64 (i_12))) 14 (tSlc.enc (r24))) 15 (.int .i64 (s.1))) 16 (.int .i64 (s.2))) (s0 := ((0 : Int), (0 : Int))) (upd_step (upd_step (upd_step (upd_step (upd_step (upd_step (upd_step rfl rfl) rfl) rfl) rfl) rfl) rfl) rfl) h ?_
          rintro ⟨k_27, j_28⟩ g w29 K30 h
          unfold F4_l3 at h
          refine wp_seq ?_
          refine wp_seq ?_
          refine wp_text [0, 1, 2, 3] rfl ?_
          refine rv 129 rfl rfl rfl (q_move (v := .int .i64 (j_28)) rfl rfl) ?_
          refine rv 130 rfl rfl rfl (q_move (v := tSlc.enc (r24)) rfl rfl) ?_
          refine rv 131 rfl rfl rfl (q_len (s := r24) rfl Try.underlying23 rfl) ?_
          refine rv 132 rfl rfl rfl (q_lss (a := j_28) (b := (r24.len : Int)) rfl rfl rfl) ?_
          refine ro_nil ?_
          refine wp_if (b := (decide (j_28 < (r24.len : Int)))) rfl h (fun hb72 h => ?_) (fun hb72 h => ?_)
          · refine wp_skip ?_
            refine seq_join (σ := Int) (J := fun (s : Int) w => F4_j4 j_28 s w K30 R) (fr := fun g (s : Int) => upd (upd (upd (upd (upd (upd (upd (g) 0 (tSlc.enc (l_1))) 5 (.pointer (r5.1))) 8 (tSlc.enc (was_11))) 9 (.int .i64 (i_12))) 14 (tSlc.enc (r24))) 16 (.int .i64 (j_28))) 15 (.int .i64 (s))) ?_ ?_
            · rintro k_31 g w32 h
              unfold F4_j4 at h
              refine wp_text [0, 1, 2] rfl ?_
              refine rv 133 rfl rfl rfl (q_move (v := .int .i64 (j_28)) rfl rfl) ?_
              refine rv 134 rfl rfl rfl (q_add (a := j_28) (b := (1 : Int)) rfl rfl rfl) ?_
              refine rv 16 rfl rfl rfl (q_assign (v := .int .i64 ((IntKind.i64.wrap (j_28 + (1 : Int))))) rfl rfl) ?_
              refine ro_nil ?_
              exact ⟨(k_31, (IntKind.i64.wrap (j_28 + (1 : Int)))), _, arr (upd_step (upd_step (upd_step (upd_step (upd_step (upd_step (upd_step rfl rfl) rfl) rfl) rfl) rfl) rfl) rfl), h⟩
            · refine wp_block ?_
              refine wp_seq ?_
              refine seq_join (σ := Bool) (J := fun (s : Bool) w => F4_j5 was_11 r24 k_27 j_28 s w K30 R) (fr := fun g (s : Bool) => upd (upd (upd (upd (upd (upd (upd (upd (g) 0 (tSlc.enc (l_1))) 5 (.pointer (r5.1))) 8 (tSlc.enc (was_11))) 9 (.int .i64 (i_12))) 14 (tSlc.enc (r24))) 15 (.int .i64 (k_27))) 16 (.int .i64 (j_28))) 160 (.bool (s))) ?_ ?_
              · rintro t_33 g w34 h
                unfold F4_j5 at h
                refine wp_if (b := t_33) rfl h (fun hb55 h => ?_) (fun hb55 h => ?_)
                · refine wp_seq ?_
                  refine wp_text [0] rfl ?_
                  refine rv 2 rfl rfl rfl (q_assign (v := .bool (false)) rfl rfl) ?_
                  refine ro_nil ?_
                  refine wp_ret ?_
                  exact ret_ok rfl (.cons (.tmp (v := .bool (false)) rfl) .nil) ⟨false, rfl, h⟩
                · refine wp_skip ?_
                  refine wp_seq ?_
                  obtain ⟨w35, hw35, h⟩ := dr_open h
                  refine wp_drawn 17 mixed rfl (by kernel_rfl) (by intro c a d v w h; cases d <;> exact h) hw35 (fun hD => ?_)
                  refine rp 0 161 hD rfl rfl rfl (fun _ => q_move (v := .int .i64 (k_27)) rfl rfl) ?_
                  refine rp 1 162 hD rfl rfl rfl (fun _ => q_move (v := tSlc.enc (was_11)) rfl rfl) ?_
                  refine rp 2 163 hD rfl rfl rfl (fun _ => q_len (s := was_11) rfl Try.underlying23 rfl) ?_
                  refine rp 3 164 hD rfl rfl rfl (fun _ => q_lss (a := k_27) (b := (was_11.len : Int)) rfl rfl rfl) ?_
                  refine rp 4 165 hD rfl rfl rfl (fun _ => q_move (v := .bool ((decide (k_27 < (was_11.len : Int))))) rfl rfl) ?_
                  refine rd_gpure (i := 5) (g := (decide (k_27 < (was_11.len : Int)))) (d := (some 166)) hD (by kernel_rfl) (by kernel_rfl) rfl (.yes 4 165 true (decide (k_27 < (was_11.len : Int))) rfl rfl rfl rfl) rfl (fun hg _ => q_move (v := tSlc.enc (was_11)) rfl rfl) ?_
                  refine rd_gpure (i := 6) (g := (decide (k_27 < (was_11.len : Int)))) (d := (some 167)) hD (by kernel_rfl) (by kernel_rfl) rfl (.yes 4 165 true (decide (k_27 < (was_11.len : Int))) rfl rfl rfl rfl) rfl (fun hg _ => q_move (v := .int .i64 (k_27)) rfl rfl) ?_
                  obtain ⟨a36, ha36, h⟩ := h
                  refine rd_gpure (i := 7) (g := (decide (k_27 < (was_11.len : Int)))) (d := (some 168)) hD (by kernel_rfl) (by kernel_rfl) rfl (.yes 4 165 true (decide (k_27 < (was_11.len : Int))) rfl rfl rfl rfl) rfl (fun hg _ => q_indexAddr (s := was_11) (i := k_27) rfl Try.underlying23 ok47 (gvb_yes hg) (gvb_yes hg) (ha36 hg)) ?_
                  refine rd_gpure (i := 8) (g := (decide (k_27 < (was_11.len : Int)))) (d := (some 169)) hD (by kernel_rfl) (by kernel_rfl) rfl (.yes 4 165 true (decide (k_27 < (was_11.len : Int))) rfl rfl rfl rfl) rfl (fun hg _ => q_fieldAddr (a := a36) (off := 0) rfl Try.underlying47 rfl rfl ok3 (by decide) (gvb_yes hg)) ?_
                  refine rd_gpure (i := 10) (g := (decide (k_27 < (was_11.len : Int)))) (d := (some 171)) hD (by kernel_rfl) (by kernel_rfl) rfl (.yes 4 165 true (decide (k_27 < (was_11.len : Int))) rfl rfl rfl rfl) rfl (fun hg _ => q_move (v := tSlc.enc (r24)) rfl rfl) ?_
                  refine rd_gpure (i := 11) (g := (decide (k_27 < (was_11.len : Int)))) (d := (some 172)) hD (by kernel_rfl) (by kernel_rfl) rfl (.yes 4 165 true (decide (k_27 < (was_11.len : Int))) rfl rfl rfl rfl) rfl (fun hg _ => q_move (v := .int .i64 (j_28)) rfl rfl) ?_
                  obtain ⟨a37, ha37, h⟩ := h
                  refine rd_gpure (i := 12) (g := (decide (k_27 < (was_11.len : Int)))) (d := (some 173)) hD (by kernel_rfl) (by kernel_rfl) rfl (.yes 4 165 true (decide (k_27 < (was_11.len : Int))) rfl rfl rfl rfl) rfl (fun hg _ => q_indexAddr (s := r24) (i := j_28) rfl Try.underlying23 ok47 (gvb_yes hg) (gvb_yes hg) (ha37 hg)) ?_
                  refine rd_gpure (i := 13) (g := (decide (k_27 < (was_11.len : Int)))) (d := (some 174)) hD (by kernel_rfl) (by kernel_rfl) rfl (.yes 4 165 true (decide (k_27 < (was_11.len : Int))) rfl rfl rfl rfl) rfl (fun hg _ => q_fieldAddr (a := a37) (off := 0) rfl Try.underlying47 rfl rfl ok3 (by decide) (gvb_yes hg)) ?_
                  obtain ⟨x38, hx38, h⟩ := h
                  refine rd_gread (i := 9) (g := (decide (k_27 < (was_11.len : Int)))) (d := (some 170)) (fun W => (RdAt (tInt .i64) (a36.add 0) W) x38) hD (by kernel_rfl) (by kernel_rfl) rfl (.yes 4 165 true (decide (k_27 < (was_11.len : Int))) rfl rfl rfl rfl) rfl (fun hg W hr => q_load (T := (tInt .i64)) (u := x38) (a := (a36.add 0)) rfl ok3 (gvb_yes hg) hr) hx38 ?_
                  obtain ⟨x39, hx39, h⟩ := h
                  refine rd_gread (i := 14) (g := (decide (k_27 < (was_11.len : Int)))) (d := (some 175)) (fun W => (RdAt (tInt .i64) (a37.add 0) W) x39) hD (by kernel_rfl) (by kernel_rfl) rfl (.yes 4 165 true (decide (k_27 < (was_11.len : Int))) rfl rfl rfl rfl) rfl (fun hg W hr => q_load (T := (tInt .i64)) (u := x39) (a := (a37.add 0)) rfl ok3 (gvb_yes hg) hr) hx39 ?_
                  refine rd_gpure (i := 15) (g := (decide (k_27 < (was_11.len : Int)))) (d := (some 176)) hD (by kernel_rfl) (by kernel_rfl) rfl (.yes 4 165 true (decide (k_27 < (was_11.len : Int))) rfl rfl rfl rfl) rfl (fun hg _ => q_eql (a := x38) (b := x39) rfl (gvb_yes hg) (gvb_yes hg)) ?_
                  refine rp 16 177 hD rfl rfl rfl (fun _ => q_pickGT (a := (decide (k_27 < (was_11.len : Int)))) (b := (x38 == x39)) rfl rfl rfl rfl) ?_
                  refine rd_nil (by kernel_rfl) ?_
                  refine wp_if (b := ((decide (k_27 < (was_11.len : Int))) && (x38 == x39))) rfl h (fun hb54 h => ?_) (fun hb54 h => ?_)
                  · refine wp_seq ?_
                    refine wp_seq ?_
                    obtain ⟨w40, hw40, h⟩ := dr_open h
                    refine wp_drawn 37 mixed rfl (by kernel_rfl) (by intro c a d v w h; cases d <;> exact h) hw40 (fun hD => ?_)
                    refine rp 0 178 hD rfl rfl rfl (fun _ => q_move (v := tSlc.enc (r24)) rfl rfl) ?_
                    refine rp 1 179 hD rfl rfl rfl (fun _ => q_move (v := .int .i64 (j_28)) rfl rfl) ?_
                    obtain ⟨a41, ha41, h⟩ := h
                    refine rp 2 180 hD rfl rfl rfl (fun _ => q_indexAddr (s := r24) (i := j_28) rfl Try.underlying23 ok47 rfl rfl ha41) ?_
                    refine rp 3 181 hD rfl rfl rfl (fun _ => q_fieldAddr (a := a41) (off := 1) rfl Try.underlying47 rfl rfl ok2 (by decide) rfl) ?_
                    refine rp 5 183 hD rfl rfl rfl (fun _ => q_move (v := tSlc.enc (was_11)) rfl rfl) ?_
                    refine rp 6 184 hD rfl rfl rfl (fun _ => q_move (v := .int .i64 (k_27)) rfl rfl) ?_
                    obtain ⟨a42, ha42, h⟩ := h
                    refine rp 7 185 hD rfl rfl rfl (fun _ => q_indexAddr (s := was_11) (i := k_27) rfl Try.underlying23 ok47 rfl rfl ha42) ?_
                    refine rp 8 186 hD rfl rfl rfl (fun _ => q_fieldAddr (a := a42) (off := 1) rfl Try.underlying47 rfl rfl ok2 (by decide) rfl) ?_
                    obtain ⟨x43, hx43, h⟩ := h
                    refine rd_read (i := 4) (d := (some 182)) (fun W => (RdAt (tInt .i64) (a41.add 1) W) x43) hD (by kernel_rfl) (by kernel_rfl) rfl (.free rfl) rfl (fun W hr => q_load (T := (tInt .i64)) (u := x43) (a := (a41.add 1)) rfl ok2 rfl hr) hx43 ?_
                    obtain ⟨x44, hx44, h⟩ := h
                    refine rd_read (i := 9) (d := (some 187)) (fun W => (RdAt (tInt .i64) (a42.add 1) W) x44) hD (by kernel_rfl) (by kernel_rfl) rfl (.free rfl) rfl (fun W hr => q_load (T := (tInt .i64)) (u := x44) (a := (a42.add 1)) rfl ok2 rfl hr) hx44 ?_
                    refine rp 10 188 hD rfl rfl rfl (fun _ => q_lss (a := x43) (b := x44) rfl rfl rfl) ?_
                    refine rp 11 189 hD rfl rfl rfl (fun _ => q_move (v := .bool ((decide (x43 < x44)))) rfl rfl) ?_
                    refine rd_gpure (i := 12) (g := (!(decide (x43 < x44)))) (d := (some 190)) hD (by kernel_rfl) (by kernel_rfl) rfl (.no 11 189 true (decide (x43 < x44)) rfl rfl rfl rfl) rfl (fun hg _ => q_move (v := tSlc.enc (r24)) rfl rfl) ?_
                    refine rd_gpure (i := 13) (g := (!(decide (x43 < x44)))) (d := (some 191)) hD (by kernel_rfl) (by kernel_rfl) rfl (.no 11 189 true (decide (x43 < x44)) rfl rfl rfl rfl) rfl (fun hg _ => q_move (v := .int .i64 (j_28)) rfl rfl) ?_
                    obtain ⟨a45, ha45, h⟩ := h
                    refine rd_gpure (i := 14) (g := (!(decide (x43 < x44)))) (d := (some 192)) hD (by kernel_rfl) (by kernel_rfl) rfl (.no 11 189 true (decide (x43 < x44)) rfl rfl rfl rfl) rfl (fun hg _ => q_indexAddr (s := r24) (i := j_28) rfl Try.underlying23 ok47 (gvb_yes hg) (gvb_yes hg) (ha45 hg)) ?_
                    refine rd_gpure (i := 15) (g := (!(decide (x43 < x44)))) (d := (some 193)) hD (by kernel_rfl) (by kernel_rfl) rfl (.no 11 189 true (decide (x43 < x44)) rfl rfl rfl rfl) rfl (fun hg _ => q_fieldAddr (a := a45) (off := 1) rfl Try.underlying47 rfl rfl ok2 (by decide) (gvb_yes hg)) ?_
                    refine rd_gpure (i := 17) (g := (!(decide (x43 < x44)))) (d := (some 195)) hD (by kernel_rfl) (by kernel_rfl) rfl (.no 11 189 true (decide (x43 < x44)) rfl rfl rfl rfl) rfl (fun hg _ => q_move (v := tSlc.enc (was_11)) rfl rfl) ?_
                    refine rd_gpure (i := 18) (g := (!(decide (x43 < x44)))) (d := (some 196)) hD (by kernel_rfl) (by kernel_rfl) rfl (.no 11 189 true (decide (x43 < x44)) rfl rfl rfl rfl) rfl (fun hg _ => q_move (v := .int .i64 (k_27)) rfl rfl) ?_
                    obtain ⟨a46, ha46, h⟩ := h
                    refine rd_gpure (i := 19) (g := (!(decide (x43 < x44)))) (d := (some 197)) hD (by kernel_rfl) (by kernel_rfl) rfl (.no 11 189 true (decide (x43 < x44)) rfl rfl rfl rfl) rfl (fun hg _ => q_indexAddr (s := was_11) (i := k_27) rfl Try.underlying23 ok47 (gvb_yes hg) (gvb_yes hg) (ha46 hg)) ?_
                    refine rd_gpure (i := 20) (g := (!(decide (x43 < x44)))) (d := (some 198)) hD (by kernel_rfl) (by kernel_rfl) rfl (.no 11 189 true (decide (x43 < x44)) rfl rfl rfl rfl) rfl (fun hg _ => q_fieldAddr (a := a46) (off := 1) rfl Try.underlying47 rfl rfl ok2 (by decide) (gvb_yes hg)) ?_
                    obtain ⟨x47, hx47, h⟩ := h
                    refine rd_gread (i := 16) (g := (!(decide (x43 < x44)))) (d := (some 194)) (fun W => (RdAt (tInt .i64) (a45.add 1) W) x47) hD (by kernel_rfl) (by kernel_rfl) rfl (.no 11 189 true (decide (x43 < x44)) rfl rfl rfl rfl) rfl (fun hg W hr => q_load (T := (tInt .i64)) (u := x47) (a := (a45.add 1)) rfl ok2 (gvb_yes hg) hr) hx47 ?_
                    obtain ⟨x48, hx48, h⟩ := h
                    refine rd_gread (i := 21) (g := (!(decide (x43 < x44)))) (d := (some 199)) (fun W => (RdAt (tInt .i64) (a46.add 1) W) x48) hD (by kernel_rfl) (by kernel_rfl) rfl (.no 11 189 true (decide (x43 < x44)) rfl rfl rfl rfl) rfl (fun hg W hr => q_load (T := (tInt .i64)) (u := x48) (a := (a46.add 1)) rfl ok2 (gvb_yes hg) hr) hx48 ?_
                    refine rd_gpure (i := 22) (g := (!(decide (x43 < x44)))) (d := (some 200)) hD (by kernel_rfl) (by kernel_rfl) rfl (.no 11 189 true (decide (x43 < x44)) rfl rfl rfl rfl) rfl (fun hg _ => q_eql (a := x47) (b := x48) rfl (gvb_yes hg) (gvb_yes hg)) ?_
                    refine rd_gpure (i := 23) (g := (!(decide (x43 < x44)))) (d := (some 201)) hD (by kernel_rfl) (by kernel_rfl) rfl (.no 11 189 true (decide (x43 < x44)) rfl rfl rfl rfl) rfl (fun hg _ => q_move (v := .bool ((x47 == x48))) rfl (gvb_yes hg)) ?_
                    refine rd_gpure (i := 24) (g := ((!(decide (x43 < x44))) && (x47 == x48))) (d := (some 202)) hD (by kernel_rfl) (by kernel_rfl) rfl (.yes 23 201 (!(decide (x43 < x44))) (x47 == x48) rfl rfl rfl rfl) rfl (fun hg _ => q_move (v := tSlc.enc (r24)) rfl rfl) ?_
                    refine rd_gpure (i := 25) (g := ((!(decide (x43 < x44))) && (x47 == x48))) (d := (some 203)) hD (by kernel_rfl) (by kernel_rfl) rfl (.yes 23 201 (!(decide (x43 < x44))) (x47 == x48) rfl rfl rfl rfl) rfl (fun hg _ => q_move (v := .int .i64 (j_28)) rfl rfl) ?_
                    obtain ⟨a49, ha49, h⟩ := h
                    refine rd_gpure (i := 26) (g := ((!(decide (x43 < x44))) && (x47 == x48))) (d := (some 204)) hD (by kernel_rfl) (by kernel_rfl) rfl (.yes 23 201 (!(decide (x43 < x44))) (x47 == x48) rfl rfl rfl rfl) rfl (fun hg _ => q_indexAddr (s := r24) (i := j_28) rfl Try.underlying23 ok47 (gvb_yes hg) (gvb_yes hg) (ha49 hg)) ?_
                    refine rd_gpure (i := 27) (g := ((!(decide (x43 < x44))) && (x47 == x48))) (d := (some 205)) hD (by kernel_rfl) (by kernel_rfl) rfl (.yes 23 201 (!(decide (x43 < x44))) (x47 == x48) rfl rfl rfl rfl) rfl (fun hg _ => q_fieldAddr (a := a49) (off := 2) rfl Try.underlying47 rfl rfl ok9 (by decide) (gvb_yes hg)) ?_
                    refine rd_gpure (i := 29) (g := ((!(decide (x43 < x44))) && (x47 == x48))) (d := (some 207)) hD (by kernel_rfl) (by kernel_rfl) rfl (.yes 23 201 (!(decide (x43 < x44))) (x47 == x48) rfl rfl rfl rfl) rfl (fun hg _ => q_move (v := tSlc.enc (was_11)) rfl rfl) ?_
                    refine rd_gpure (i := 30) (g := ((!(decide (x43 < x44))) && (x47 == x48))) (d := (some 208)) hD (by kernel_rfl) (by kernel_rfl) rfl (.yes 23 201 (!(decide (x43 < x44))) (x47 == x48) rfl rfl rfl rfl) rfl (fun hg _ => q_move (v := .int .i64 (k_27)) rfl rfl) ?_
                    obtain ⟨a50, ha50, h⟩ := h
                    refine rd_gpure (i := 31) (g := ((!(decide (x43 < x44))) && (x47 == x48))) (d := (some 209)) hD (by kernel_rfl) (by kernel_rfl) rfl (.yes 23 201 (!(decide (x43 < x44))) (x47 == x48) rfl rfl rfl rfl) rfl (fun hg _ => q_indexAddr (s := was_11) (i := k_27) rfl Try.underlying23 ok47 (gvb_yes hg) (gvb_yes hg) (ha50 hg)) ?_
                    refine rd_gpure (i := 32) (g := ((!(decide (x43 < x44))) && (x47 == x48))) (d := (some 210)) hD (by kernel_rfl) (by kernel_rfl) rfl (.yes 23 201 (!(decide (x43 < x44))) (x47 == x48) rfl rfl rfl rfl) rfl (fun hg _ => q_fieldAddr (a := a50) (off := 2) rfl Try.underlying47 rfl rfl ok9 (by decide) (gvb_yes hg)) ?_
                    obtain ⟨x51, hx51, h⟩ := h
                    refine rd_gread (i := 28) (g := ((!(decide (x43 < x44))) && (x47 == x48))) (d := (some 206)) (fun W => (RdAt tStr (a49.add 2) W) x51) hD (by kernel_rfl) (by kernel_rfl) rfl (.yes 23 201 (!(decide (x43 < x44))) (x47 == x48) rfl rfl rfl rfl) rfl (fun hg W hr => q_load (T := tStr) (u := x51) (a := (a49.add 2)) rfl ok9 (gvb_yes hg) hr) hx51 ?_
                    obtain ⟨x52, hx52, h⟩ := h
                    refine rd_gread (i := 33) (g := ((!(decide (x43 < x44))) && (x47 == x48))) (d := (some 211)) (fun W => (RdAt tStr (a50.add 2) W) x52) hD (by kernel_rfl) (by kernel_rfl) rfl (.yes 23 201 (!(decide (x43 < x44))) (x47 == x48) rfl rfl rfl rfl) rfl (fun hg W hr => q_load (T := tStr) (u := x52) (a := (a50.add 2)) rfl ok9 (gvb_yes hg) hr) hx52 ?_
                    refine rd_gpure (i := 34) (g := ((!(decide (x43 < x44))) && (x47 == x48))) (d := (some 212)) hD (by kernel_rfl) (by kernel_rfl) rfl (.yes 23 201 (!(decide (x43 < x44))) (x47 == x48) rfl rfl rfl rfl) rfl (fun hg _ => q_neS (a := x51) (b := x52) rfl (gvb_yes hg) (gvb_yes hg)) ?_
                    refine rd_gpure (i := 35) (g := (!(decide (x43 < x44)))) (d := (some 213)) hD (by kernel_rfl) (by kernel_rfl) rfl (.no 11 189 true (decide (x43 < x44)) rfl rfl rfl rfl) rfl (fun hg _ => q_pickNT (g0 := (!(decide (x43 < x44)))) (a := (x47 == x48)) (b := (!(x51 == x52))) hg rfl rfl rfl rfl) ?_
                    refine rp 36 214 hD rfl rfl rfl (fun _ => q_pickGF (a := (decide (x43 < x44))) (c := ((x47 == x48) && (!(x51 == x52)))) rfl rfl rfl rfl) ?_
                    refine rd_nil (by kernel_rfl) ?_
                    refine wp_if (b := ((decide (x43 < x44)) || ((x47 == x48) && (!(x51 == x52))))) rfl h (fun hb53 h => ?_) (fun hb53 h => ?_)
                    · refine wp_seq ?_
                      refine wp_text [0] rfl ?_
                      refine rv 2 rfl rfl rfl (q_assign (v := .bool (false)) rfl rfl) ?_
                      refine ro_nil ?_
                      refine wp_ret ?_
                      exact ret_ok rfl (.cons (.tmp (v := .bool (false)) rfl) .nil) ⟨false, rfl, h⟩
                    · refine wp_skip ?_
                      refine wp_text [0, 1, 2] rfl ?_
                      refine rv 215 rfl rfl rfl (q_move (v := .int .i64 (k_27)) rfl rfl) ?_
                      refine rv 216 rfl rfl rfl (q_add (a := k_27) (b := (1 : Int)) rfl rfl rfl) ?_
                      refine rv 15 rfl rfl rfl (q_assign (v := .int .i64 ((IntKind.i64.wrap (k_27 + (1 : Int))))) rfl rfl) ?_
                      refine ro_nil ?_
                      exact ⟨((IntKind.i64.wrap (k_27 + (1 : Int)))), _, arr (upd_step (upd_step (upd_step (upd_step (upd_step (upd_step (upd_step rfl rfl) rfl) rfl) rfl) rfl) rfl) rfl), h⟩
                  · refine wp_skip ?_
                    exact ⟨(k_27), _, arr (upd_step (upd_step (upd_step (upd_step (upd_step (upd_step (upd_step rfl rfl) rfl) rfl) rfl) rfl) rfl) rfl), h⟩
              · obtain ⟨w56, hw56, h⟩ := dr_open h
                refine wp_drawn 26 mixed rfl (by kernel_rfl) (by intro c a d v w h; cases d <;> exact h) hw56 (fun hD => ?_)
                refine rp 0 135 hD rfl rfl rfl (fun _ => q_move (v := .int .i64 (j_28)) rfl rfl) ?_
                refine rp 1 136 hD rfl rfl rfl (fun _ => q_gtr (a := j_28) (b := (0 : Int)) rfl rfl rfl) ?_
                refine rp 2 137 hD rfl rfl rfl (fun _ => q_move (v := .bool ((decide (j_28 > (0 : Int))))) rfl rfl) ?_
                refine rd_gpure (i := 3) (g := (decide (j_28 > (0 : Int)))) (d := (some 138)) hD (by kernel_rfl) (by kernel_rfl) rfl (.yes 2 137 true (decide (j_28 > (0 : Int))) rfl rfl rfl rfl) rfl (fun hg _ => q_move (v := tSlc.enc (r24)) rfl rfl) ?_
                refine rd_gpure (i := 4) (g := (decide (j_28 > (0 : Int)))) (d := (some 139)) hD (by kernel_rfl) (by kernel_rfl) rfl (.yes 2 137 true (decide (j_28 > (0 : Int))) rfl rfl rfl rfl) rfl (fun hg _ => q_move (v := .int .i64 (j_28)) rfl rfl) ?_
                refine rd_gpure (i := 5) (g := (decide (j_28 > (0 : Int)))) (d := (some 140)) hD (by kernel_rfl) (by kernel_rfl) rfl (.yes 2 137 true (decide (j_28 > (0 : Int))) rfl rfl rfl rfl) rfl (fun hg _ => q_sub (a := j_28) (b := (1 : Int)) rfl (gvb_yes hg) rfl) ?_
                obtain ⟨a57, ha57, h⟩ := h
                refine rd_gpure (i := 6) (g := (decide (j_28 > (0 : Int)))) (d := (some 141)) hD (by kernel_rfl) (by kernel_rfl) rfl (.yes 2 137 true (decide (j_28 > (0 : Int))) rfl rfl rfl rfl) rfl (fun hg _ => q_indexAddr (s := r24) (i := (IntKind.i64.wrap (j_28 - (1 : Int)))) rfl Try.underlying23 ok47 (gvb_yes hg) (gvb_yes hg) (ha57 hg)) ?_
                refine rd_gpure (i := 7) (g := (decide (j_28 > (0 : Int)))) (d := (some 142)) hD (by kernel_rfl) (by kernel_rfl) rfl (.yes 2 137 true (decide (j_28 > (0 : Int))) rfl rfl rfl rfl) rfl (fun hg _ => q_fieldAddr (a := a57) (off := 0) rfl Try.underlying47 rfl rfl ok3 (by decide) (gvb_yes hg)) ?_
                refine rd_gpure (i := 9) (g := (decide (j_28 > (0 : Int)))) (d := (some 144)) hD (by kernel_rfl) (by kernel_rfl) rfl (.yes 2 137 true (decide (j_28 > (0 : Int))) rfl rfl rfl rfl) rfl (fun hg _ => q_move (v := tSlc.enc (r24)) rfl rfl) ?_
                refine rd_gpure (i := 10) (g := (decide (j_28 > (0 : Int)))) (d := (some 145)) hD (by kernel_rfl) (by kernel_rfl) rfl (.yes 2 137 true (decide (j_28 > (0 : Int))) rfl rfl rfl rfl) rfl (fun hg _ => q_move (v := .int .i64 (j_28)) rfl rfl) ?_
                obtain ⟨a58, ha58, h⟩ := h
                refine rd_gpure (i := 11) (g := (decide (j_28 > (0 : Int)))) (d := (some 146)) hD (by kernel_rfl) (by kernel_rfl) rfl (.yes 2 137 true (decide (j_28 > (0 : Int))) rfl rfl rfl rfl) rfl (fun hg _ => q_indexAddr (s := r24) (i := j_28) rfl Try.underlying23 ok47 (gvb_yes hg) (gvb_yes hg) (ha58 hg)) ?_
                refine rd_gpure (i := 12) (g := (decide (j_28 > (0 : Int)))) (d := (some 147)) hD (by kernel_rfl) (by kernel_rfl) rfl (.yes 2 137 true (decide (j_28 > (0 : Int))) rfl rfl rfl rfl) rfl (fun hg _ => q_fieldAddr (a := a58) (off := 0) rfl Try.underlying47 rfl rfl ok3 (by decide) (gvb_yes hg)) ?_
                obtain ⟨x59, hx59, h⟩ := h
                refine rd_gread (i := 8) (g := (decide (j_28 > (0 : Int)))) (d := (some 143)) (fun W => (RdAt (tInt .i64) (a57.add 0) W) x59) hD (by kernel_rfl) (by kernel_rfl) rfl (.yes 2 137 true (decide (j_28 > (0 : Int))) rfl rfl rfl rfl) rfl (fun hg W hr => q_load (T := (tInt .i64)) (u := x59) (a := (a57.add 0)) rfl ok3 (gvb_yes hg) hr) hx59 ?_
                obtain ⟨x60, hx60, h⟩ := h
                refine rd_gread (i := 13) (g := (decide (j_28 > (0 : Int)))) (d := (some 148)) (fun W => (RdAt (tInt .i64) (a58.add 0) W) x60) hD (by kernel_rfl) (by kernel_rfl) rfl (.yes 2 137 true (decide (j_28 > (0 : Int))) rfl rfl rfl rfl) rfl (fun hg W hr => q_load (T := (tInt .i64)) (u := x60) (a := (a58.add 0)) rfl ok3 (gvb_yes hg) hr) hx60 ?_
                refine rd_gpure (i := 14) (g := (decide (j_28 > (0 : Int)))) (d := (some 149)) hD (by kernel_rfl) (by kernel_rfl) rfl (.yes 2 137 true (decide (j_28 > (0 : Int))) rfl rfl rfl rfl) rfl (fun hg _ => q_geq (a := x59) (b := x60) rfl (gvb_yes hg) (gvb_yes hg)) ?_
                refine rp 15 150 hD rfl rfl rfl (fun _ => q_pickGT (a := (decide (j_28 > (0 : Int)))) (b := (decide (x59 ≥ x60))) rfl rfl rfl rfl) ?_
                refine rp 16 151 hD rfl rfl rfl (fun _ => q_move (v := .bool (((decide (j_28 > (0 : Int))) && (decide (x59 ≥ x60))))) rfl rfl) ?_
                refine ro_if (b := ((decide (j_28 > (0 : Int))) && (decide (x59 ≥ x60)))) h (fun hb61 h => ?_) (fun hb61 h => ?_)
                · refine rd_bar (i := 17) (d := (some 152)) hD (by kernel_rfl) (by kernel_rfl) rfl (.by_ 16 false 151 ((decide (j_28 > (0 : Int))) && (decide (x59 ≥ x60))) rfl rfl rfl hb61) rfl ?_
                  refine rd_bar (i := 18) (d := (some 153)) hD (by kernel_rfl) (by kernel_rfl) rfl (.by_ 16 false 151 ((decide (j_28 > (0 : Int))) && (decide (x59 ≥ x60))) rfl rfl rfl hb61) rfl ?_
                  refine rd_bar (i := 19) (d := (some 154)) hD (by kernel_rfl) (by kernel_rfl) rfl (.by_ 16 false 151 ((decide (j_28 > (0 : Int))) && (decide (x59 ≥ x60))) rfl rfl rfl hb61) rfl ?_
                  refine rd_bar (i := 20) (d := (some 155)) hD (by kernel_rfl) (by kernel_rfl) rfl (.by_ 16 false 151 ((decide (j_28 > (0 : Int))) && (decide (x59 ≥ x60))) rfl rfl rfl hb61) rfl ?_
                  refine rd_bar (i := 22) (d := (some 157)) hD (by kernel_rfl) (by kernel_rfl) rfl (.by_ 16 false 151 ((decide (j_28 > (0 : Int))) && (decide (x59 ≥ x60))) rfl rfl rfl hb61) rfl ?_
                  refine rd_bar (i := 21) (d := (some 156)) hD (by kernel_rfl) (by kernel_rfl) rfl (.by_ 16 false 151 ((decide (j_28 > (0 : Int))) && (decide (x59 ≥ x60))) rfl rfl rfl hb61) rfl ?_
                  refine rd_one (i := 23) (by kernel_rfl) ?_
                  refine po_bar (d := (some 158)) rfl (.by_ 16 false 151 ((decide (j_28 > (0 : Int))) && (decide (x59 ≥ x60))) rfl rfl rfl hb61) rfl ⟨fun _ _ _ h => h, ?_⟩
                  refine rd_bar (i := 24) (d := (some 159)) hD (by kernel_rfl) (by kernel_rfl) rfl (.by_ 16 false 151 ((decide (j_28 > (0 : Int))) && (decide (x59 ≥ x60))) rfl rfl rfl hb61) rfl ?_
                  refine rp 25 160 hD rfl rfl rfl (fun _ => q_pickT (v := .bool (true)) (b := ((decide (j_28 > (0 : Int))) && (decide (x59 ≥ x60)))) rfl rfl hb61 rfl) ?_
                  refine rd_nil (by kernel_rfl) ?_
                  exact ⟨(true), _, arr (upd_step (upd_step (upd_step (upd_step (upd_step (upd_step (upd_step (upd_step rfl rfl) rfl) rfl) rfl) rfl) rfl) rfl) rfl), h⟩
                · refine rd_pure (i := 17) (d := (some 152)) hD (by kernel_rfl) (by kernel_rfl) rfl (.by_ 16 false 151 ((decide (j_28 > (0 : Int))) && (decide (x59 ≥ x60))) rfl rfl rfl hb61) rfl (fun _ => q_move (v := tSlc.enc (r24)) rfl rfl) ?_
                  refine rd_pure (i := 18) (d := (some 153)) hD (by kernel_rfl) (by kernel_rfl) rfl (.by_ 16 false 151 ((decide (j_28 > (0 : Int))) && (decide (x59 ≥ x60))) rfl rfl rfl hb61) rfl (fun _ => q_move (v := .int .i64 (j_28)) rfl rfl) ?_
                  obtain ⟨a62, ha62, h⟩ := h
                  refine rd_pure (i := 19) (d := (some 154)) hD (by kernel_rfl) (by kernel_rfl) rfl (.by_ 16 false 151 ((decide (j_28 > (0 : Int))) && (decide (x59 ≥ x60))) rfl rfl rfl hb61) rfl (fun _ => q_indexAddr (s := r24) (i := j_28) rfl Try.underlying23 ok47 rfl rfl ha62) ?_
                  refine rd_pure (i := 20) (d := (some 155)) hD (by kernel_rfl) (by kernel_rfl) rfl (.by_ 16 false 151 ((decide (j_28 > (0 : Int))) && (decide (x59 ≥ x60))) rfl rfl rfl hb61) rfl (fun _ => q_fieldAddr (a := a62) (off := 1) rfl Try.underlying47 rfl rfl ok2 (by decide) rfl) ?_
                  refine rd_pure (i := 22) (d := (some 157)) hD (by kernel_rfl) (by kernel_rfl) rfl (.by_ 16 false 151 ((decide (j_28 > (0 : Int))) && (decide (x59 ≥ x60))) rfl rfl rfl hb61) rfl (fun _ => q_move (v := .pointer (r5.1)) rfl rfl) ?_
                  obtain ⟨x63, hx63, h⟩ := h
                  refine rd_read (i := 21) (d := (some 156)) (fun W => (RdAt (tInt .i64) (a62.add 1) W) x63) hD (by kernel_rfl) (by kernel_rfl) rfl (.by_ 16 false 151 ((decide (j_28 > (0 : Int))) && (decide (x59 ≥ x60))) rfl rfl rfl hb61) rfl (fun W hr => q_load (T := (tInt .i64)) (u := x63) (a := (a62.add 1)) rfl ok2 rfl hr) hx63 ?_
                  refine rd_one (i := 23) (by kernel_rfl) ?_
                  refine po_wp rfl (.by_ 16 false 151 ((decide (j_28 > (0 : Int))) && (decide (x59 ≥ x60))) rfl rfl rfl hb61) (wp_cl (d := (some 158)) rfl (q_call (k := 15) (l := [.pointer (r5.1)]) rfl ent15 rfl) h ?_)
                  intro r65 w64 h
                  obtain ⟨hk66, h⟩ := h
                  obtain ⟨hk67, h⟩ := h
                  obtain ⟨hk68, h⟩ := h
                  refine ⟨(hk_keep (fun _ => hk68) (hk_keep (fun _ => hk67) (hk_keep (fun _ => hk66) hk_nil))), ?_⟩
                  refine rd_pure (i := 24) (d := (some 159)) hD (by kernel_rfl) (by kernel_rfl) rfl (.by_ 16 false 151 ((decide (j_28 > (0 : Int))) && (decide (x59 ≥ x60))) rfl rfl rfl hb61) rfl (fun _ => q_gtr (a := x63) (b := r65) rfl rfl rfl) ?_
                  refine rp 25 160 hD rfl rfl rfl (fun _ => q_pickF (v := .bool ((decide (x63 > r65)))) (b := ((decide (j_28 > (0 : Int))) && (decide (x59 ≥ x60)))) rfl rfl hb61 rfl) ?_
                  refine rd_nil (by kernel_rfl) ?_
                  exact ⟨((decide (x63 > r65))), _, arr (upd_step (upd_step (upd_step (upd_step (upd_step (upd_step (upd_step (upd_step rfl rfl) rfl) rfl) rfl) rfl) rfl) rfl) rfl), h⟩
          · refine wp_exit ?_
            refine wp_seq ?_
            refine wp_seq ?_
            refine wp_text [0, 1, 2, 3] rfl ?_
            refine rv 217 rfl rfl rfl (q_move (v := .int .i64 (k_27)) rfl rfl) ?_
            refine rv 218 rfl rfl rfl (q_move (v := tSlc.enc (was_11)) rfl rfl) ?_
            refine rv 219 rfl rfl rfl (q_len (s := was_11) rfl Try.underlying23 rfl) ?_
            refine rv 220 rfl rfl rfl (q_neq (a := k_27) (b := (was_11.len : Int)) rfl rfl rfl) ?_
            refine ro_nil ?_
            refine wp_if (b := (k_27 != (was_11.len : Int))) rfl h (fun hb71 h => ?_) (fun hb71 h => ?_)
            · refine wp_seq ?_
              refine wp_text [0] rfl ?_
              refine rv 2 rfl rfl rfl (q_assign (v := .bool (false)) rfl rfl) ?_
              refine ro_nil ?_
              refine wp_ret ?_
              exact ret_ok rfl (.cons (.tmp (v := .bool (false)) rfl) .nil) ⟨false, rfl, h⟩
            · refine wp_skip ?_
              refine wp_text [0, 1, 2, 3, 4] rfl ?_
              refine rv 221 rfl rfl rfl (q_move (v := .pointer (r5.1)) rfl rfl) ?_
              refine ro_wp rfl (.free rfl) (wp_cl (d := (some 222)) rfl (q_call (k := 15) (l := [.pointer (r5.1)]) rfl ent15 rfl) h ?_)
              intro r70 w69 h
              refine rv 223 rfl rfl rfl (q_move (v := tSlc.enc (r24)) rfl rfl) ?_
              refine rv 7 rfl rfl rfl (q_assign (v := .int .i64 (r70)) rfl rfl) ?_
              refine rv 8 rfl rfl rfl (q_assign (v := tSlc.enc (r24)) rfl rfl) ?_
              refine ro_nil ?_
              refine wp_text [0, 1, 2] rfl ?_
              refine rv 49 rfl rfl rfl (q_move (v := .int .i64 (i_12)) rfl rfl) ?_
              refine rv 50 rfl rfl rfl (q_add (a := i_12) (b := (1 : Int)) rfl rfl rfl) ?_
              refine rv 9 rfl rfl rfl (q_assign (v := .int .i64 ((IntKind.i64.wrap (i_12 + (1 : Int))))) rfl rfl) ?_
              refine ro_nil ?_
              exact ⟨(r70, r24, (IntKind.i64.wrap (i_12 + (1 : Int)))), _, arr (upd_step (upd_step (upd_step (upd_step (upd_step rfl rfl) rfl) rfl) rfl) rfl), h⟩
      · refine wp_seq ?_
        refine wp_text [0, 1, 2] rfl ?_
        refine rv 56 rfl rfl rfl (q_fieldAddr (a := a19) (off := 0) rfl Try.underlying39 rfl rfl ok3 (by decide) rfl) ?_
        obtain ⟨x74, hx74, h⟩ := h
        refine rv 57 rfl rfl rfl (q_load (T := (tInt .i64)) (u := x74) (a := (a19.add 0)) rfl ok3 rfl hx74) ?_
        refine rv 58 rfl rfl rfl (q_eql (a := x74) (b := (0 : Int)) rfl rfl rfl) ?_
        refine ro_nil ?_
        refine wp_if (b := (x74 == (0 : Int))) rfl h (fun hb117 h => ?_) (fun hb117 h => ?_)
        · refine wp_seq ?_
          refine wp_text [0, 1, 2, 3, 4, 5, 6, 7, 8] rfl ?_
          refine rv 60 rfl rfl rfl (q_move (v := .pointer (r5.1)) rfl rfl) ?_
          refine rv 61 rfl rfl rfl (q_fieldAddr (a := a19) (off := 3) rfl Try.underlying39 rfl rfl ok2 (by decide) rfl) ?_
          obtain ⟨x75, hx75, h⟩ := h
          refine rv 62 rfl rfl rfl (q_load (T := (tInt .i64)) (u := x75) (a := (a19.add 3)) rfl ok2 rfl hx75) ?_
          refine ro_wp rfl (.free rfl) (wp_cl (d := (some 63)) rfl (q_call (k := 14) (l := [.pointer (r5.1), .int .i64 (x75)]) rfl ent14 rfl) h ?_)
          intro r77 w76 h
          refine rv 59 rfl rfl rfl (q_move (v := (tTup2 tSlc (tInt .i64)).enc (r77)) rfl rfl) ?_
          refine rv 64 rfl rfl rfl (q_extract (vs := #[tSlc.enc (r77.1), .int .i64 (r77.2)]) (v := tSlc.enc (r77.1)) rfl rfl rfl) ?_
          refine rv 65 rfl rfl rfl (q_extract (vs := #[tSlc.enc (r77.1), .int .i64 (r77.2)]) (v := .int .i64 (r77.2)) rfl rfl rfl) ?_
          refine rv 11 rfl rfl rfl (q_assign (v := tSlc.enc (r77.1)) rfl rfl) ?_
          refine rv 12 rfl rfl rfl (q_assign (v := .int .i64 (r77.2)) rfl rfl) ?_
          refine ro_nil ?_
          refine seq_join (σ := Bool) (J := fun (s : Bool) w => F4_j6 r5 promised_10 was_11 i_12 s w K14 R) (fr := fun g (s : Bool) => upd (upd (upd (upd (upd (upd (g) 0 (tSlc.enc (l_1))) 5 (.pointer (r5.1))) 7 (.int .i64 (promised_10))) 8 (tSlc.enc (was_11))) 9 (.int .i64 (i_12))) 99 (.bool (s))) ?_ ?_
          · rintro t_78 g w79 h
            unfold F4_j6 at h
            refine wp_if (b := t_78) rfl h (fun hb80 h => ?_) (fun hb80 h => ?_)
            · refine wp_seq ?_
              refine wp_text [0] rfl ?_
              refine rv 2 rfl rfl rfl (q_assign (v := .bool (false)) rfl rfl) ?_
              refine ro_nil ?_
              refine wp_ret ?_
              exact ret_ok rfl (.cons (.tmp (v := .bool (false)) rfl) .nil) ⟨false, rfl, h⟩
            · refine wp_skip ?_
              exact ⟨(), _, arr (upd_step (upd_step (upd_step (upd_step (upd_step rfl rfl) rfl) rfl) rfl) rfl), h⟩
          · obtain ⟨w81, hw81, h⟩ := dr_open h
            refine wp_drawn 34 mixed rfl (by kernel_rfl) (by intro c a d v w h; cases d <;> exact h) hw81 (fun hD => ?_)
            refine rp 0 66 hD rfl rfl rfl (fun _ => q_move (v := .int .i64 (r77.2)) rfl rfl) ?_
            refine rp 1 67 hD rfl rfl rfl (fun _ => q_eql (a := r77.2) (b := (0 : Int)) rfl rfl rfl) ?_
            refine rp 2 68 hD rfl rfl rfl (fun _ => q_fieldAddr (a := a19) (off := 3) rfl Try.underlying39 rfl rfl ok2 (by decide) rfl) ?_
            obtain ⟨x82, hx82, h⟩ := h
            refine rd_read (i := 3) (d := (some 69)) (fun W => (RdAt (tInt .i64) (a19.add 3) W) x82) hD (by kernel_rfl) (by kernel_rfl) rfl (.free rfl) rfl (fun W hr => q_load (T := (tInt .i64)) (u := x82) (a := (a19.add 3)) rfl ok2 rfl hr) hx82 ?_
            refine rp 4 70 hD rfl rfl rfl (fun _ => q_geq (a := x82) (b := (1 : Int)) rfl rfl rfl) ?_
            refine rp 5 71 hD rfl rfl rfl (fun _ => q_move (v := .bool ((decide (x82 ≥ (1 : Int))))) rfl rfl) ?_
            refine rd_gpure (i := 6) (g := (decide (x82 ≥ (1 : Int)))) (d := (some 72)) hD (by kernel_rfl) (by kernel_rfl) rfl (.yes 5 71 true (decide (x82 ≥ (1 : Int))) rfl rfl rfl rfl) rfl (fun hg _ => q_fieldAddr (a := a19) (off := 3) rfl Try.underlying39 rfl rfl ok2 (by decide) rfl) ?_
            obtain ⟨x83, hx83, h⟩ := h
            refine rd_gread (i := 7) (g := (decide (x82 ≥ (1 : Int)))) (d := (some 73)) (fun W => (RdAt (tInt .i64) (a19.add 3) W) x83) hD (by kernel_rfl) (by kernel_rfl) rfl (.yes 5 71 true (decide (x82 ≥ (1 : Int))) rfl rfl rfl rfl) rfl (fun hg W hr => q_load (T := (tInt .i64)) (u := x83) (a := (a19.add 3)) rfl ok2 (gvb_yes hg) hr) hx83 ?_
            refine rd_gpure (i := 8) (g := (decide (x82 ≥ (1 : Int)))) (d := (some 74)) hD (by kernel_rfl) (by kernel_rfl) rfl (.yes 5 71 true (decide (x82 ≥ (1 : Int))) rfl rfl rfl rfl) rfl (fun hg _ => q_leq (a := x83) (b := (1099511627776 : Int)) rfl (gvb_yes hg) rfl) ?_
            refine rp 9 75 hD rfl rfl rfl (fun _ => q_pickGT (a := (decide (x82 ≥ (1 : Int)))) (b := (decide (x83 ≤ (1099511627776 : Int)))) rfl rfl rfl rfl) ?_
            refine rp 10 76 hD rfl rfl rfl (fun _ => q_move (v := .bool (((decide (x82 ≥ (1 : Int))) && (decide (x83 ≤ (1099511627776 : Int)))))) rfl rfl) ?_
            refine rd_gpure (i := 11) (g := ((decide (x82 ≥ (1 : Int))) && (decide (x83 ≤ (1099511627776 : Int))))) (d := (some 77)) hD (by kernel_rfl) (by kernel_rfl) rfl (.yes 10 76 true ((decide (x82 ≥ (1 : Int))) && (decide (x83 ≤ (1099511627776 : Int)))) rfl rfl rfl rfl) rfl (fun hg _ => q_fieldAddr (a := a19) (off := 3) rfl Try.underlying39 rfl rfl ok2 (by decide) rfl) ?_
            refine rd_gpure (i := 13) (g := ((decide (x82 ≥ (1 : Int))) && (decide (x83 ≤ (1099511627776 : Int))))) (d := (some 79)) hD (by kernel_rfl) (by kernel_rfl) rfl (.yes 10 76 true ((decide (x82 ≥ (1 : Int))) && (decide (x83 ≤ (1099511627776 : Int)))) rfl rfl rfl rfl) rfl (fun hg _ => q_move (v := .int .i64 (promised_10)) rfl rfl) ?_
            obtain ⟨x84, hx84, h⟩ := h
            refine rd_gread (i := 12) (g := ((decide (x82 ≥ (1 : Int))) && (decide (x83 ≤ (1099511627776 : Int))))) (d := (some 78)) (fun W => (RdAt (tInt .i64) (a19.add 3) W) x84) hD (by kernel_rfl) (by kernel_rfl) rfl (.yes 10 76 true ((decide (x82 ≥ (1 : Int))) && (decide (x83 ≤ (1099511627776 : Int)))) rfl rfl rfl rfl) rfl (fun hg W hr => q_load (T := (tInt .i64)) (u := x84) (a := (a19.add 3)) rfl ok2 (gvb_yes hg) hr) hx84 ?_
            refine rd_gpure (i := 14) (g := ((decide (x82 ≥ (1 : Int))) && (decide (x83 ≤ (1099511627776 : Int))))) (d := (some 80)) hD (by kernel_rfl) (by kernel_rfl) rfl (.yes 10 76 true ((decide (x82 ≥ (1 : Int))) && (decide (x83 ≤ (1099511627776 : Int)))) rfl rfl rfl rfl) rfl (fun hg _ => q_geq (a := x84) (b := promised_10) rfl (gvb_yes hg) (gvb_yes hg)) ?_
            refine rp 15 81 hD rfl rfl rfl (fun _ => q_pickGT (a := ((decide (x82 ≥ (1 : Int))) && (decide (x83 ≤ (1099511627776 : Int))))) (b := (decide (x84 ≥ promised_10))) rfl rfl rfl rfl) ?_
            refine rp 16 82 hD rfl rfl rfl (fun _ => q_neB (a := (r77.2 == (0 : Int))) (b := (((decide (x82 ≥ (1 : Int))) && (decide (x83 ≤ (1099511627776 : Int)))) && (decide (x84 ≥ promised_10)))) rfl Try.underlying4 rfl rfl) ?_
            refine rp 17 83 hD rfl rfl rfl (fun _ => q_move (v := .bool ((!((r77.2 == (0 : Int)) == (((decide (x82 ≥ (1 : Int))) && (decide (x83 ≤ (1099511627776 : Int)))) && (decide (x84 ≥ promised_10))))))) rfl rfl) ?_
            refine ro_if (b := (!((r77.2 == (0 : Int)) == (((decide (x82 ≥ (1 : Int))) && (decide (x83 ≤ (1099511627776 : Int)))) && (decide (x84 ≥ promised_10)))))) h (fun hb85 h => ?_) (fun hb85 h => ?_)
            · refine rd_bar (i := 18) (d := (some 84)) hD (by kernel_rfl) (by kernel_rfl) rfl (.by_ 17 false 83 (!((r77.2 == (0 : Int)) == (((decide (x82 ≥ (1 : Int))) && (decide (x83 ≤ (1099511627776 : Int)))) && (decide (x84 ≥ promised_10))))) rfl rfl rfl hb85) rfl ?_
              refine rd_bar (i := 19) (d := (some 85)) hD (by kernel_rfl) (by kernel_rfl) rfl (.by_ 17 false 83 (!((r77.2 == (0 : Int)) == (((decide (x82 ≥ (1 : Int))) && (decide (x83 ≤ (1099511627776 : Int)))) && (decide (x84 ≥ promised_10))))) rfl rfl rfl hb85) rfl ?_
              refine rd_bar (i := 20) (d := (some 86)) hD (by kernel_rfl) (by kernel_rfl) rfl (.by_ 17 false 83 (!((r77.2 == (0 : Int)) == (((decide (x82 ≥ (1 : Int))) && (decide (x83 ≤ (1099511627776 : Int)))) && (decide (x84 ≥ promised_10))))) rfl rfl rfl hb85) rfl ?_
              refine rd_bar (i := 21) (d := (some 87)) hD (by kernel_rfl) (by kernel_rfl) rfl (.undef 20 true 86 rfl rfl rfl) rfl ?_
              refine rd_bar (i := 22) (d := (some 88)) hD (by kernel_rfl) (by kernel_rfl) rfl (.undef 20 true 86 rfl rfl rfl) rfl ?_
              refine rd_one (i := 23) (by kernel_rfl) ?_
              refine po_bar (d := (some 89)) rfl (.undef 20 true 86 rfl rfl rfl) rfl ⟨fun _ _ _ h => h, ?_⟩
              refine rd_bar (i := 24) (d := (some 90)) hD (by kernel_rfl) (by kernel_rfl) rfl (.undef 20 true 86 rfl rfl rfl) rfl ?_
              refine rd_bar (i := 25) (d := (some 91)) hD (by kernel_rfl) (by kernel_rfl) rfl (.undef 20 true 86 rfl rfl rfl) rfl ?_
              refine rd_bar (i := 26) (d := (some 92)) hD (by kernel_rfl) (by kernel_rfl) rfl (.undef 25 false 91 rfl rfl rfl) rfl ?_
              refine rd_bar (i := 28) (d := (some 94)) hD (by kernel_rfl) (by kernel_rfl) rfl (.undef 25 false 91 rfl rfl rfl) rfl ?_
              refine rd_bar (i := 29) (d := (some 95)) hD (by kernel_rfl) (by kernel_rfl) rfl (.undef 25 false 91 rfl rfl rfl) rfl ?_
              refine rd_one (i := 27) (by kernel_rfl) ?_
              refine po_bar (d := (some 93)) rfl (.undef 25 false 91 rfl rfl rfl) rfl ⟨fun _ _ _ h => h, ?_⟩
              refine rd_bar (i := 30) (d := (some 96)) hD (by kernel_rfl) (by kernel_rfl) rfl (.undef 25 false 91 rfl rfl rfl) rfl ?_
              refine rd_bar (i := 31) (d := (some 97)) hD (by kernel_rfl) (by kernel_rfl) rfl (.undef 20 true 86 rfl rfl rfl) rfl ?_
              refine rd_bar (i := 32) (d := (some 98)) hD (by kernel_rfl) (by kernel_rfl) rfl (.by_ 17 false 83 (!((r77.2 == (0 : Int)) == (((decide (x82 ≥ (1 : Int))) && (decide (x83 ≤ (1099511627776 : Int)))) && (decide (x84 ≥ promised_10))))) rfl rfl rfl hb85) rfl ?_
              refine rp 33 99 hD rfl rfl rfl (fun _ => q_pickT (v := .bool (true)) (b := (!((r77.2 == (0 : Int)) == (((decide (x82 ≥ (1 : Int))) && (decide (x83 ≤ (1099511627776 : Int)))) && (decide (x84 ≥ promised_10)))))) rfl rfl hb85 rfl) ?_
              refine rd_nil (by kernel_rfl) ?_
              exact ⟨(true), _, arr (upd_step (upd_step (upd_step (upd_step (upd_step (upd_step rfl rfl) rfl) rfl) rfl) rfl) rfl), h⟩
            · refine rd_pure (i := 18) (d := (some 84)) hD (by kernel_rfl) (by kernel_rfl) rfl (.by_ 17 false 83 (!((r77.2 == (0 : Int)) == (((decide (x82 ≥ (1 : Int))) && (decide (x83 ≤ (1099511627776 : Int)))) && (decide (x84 ≥ promised_10))))) rfl rfl rfl hb85) rfl (fun _ => q_move (v := .int .i64 (r77.2)) rfl rfl) ?_
              refine rd_pure (i := 19) (d := (some 85)) hD (by kernel_rfl) (by kernel_rfl) rfl (.by_ 17 false 83 (!((r77.2 == (0 : Int)) == (((decide (x82 ≥ (1 : Int))) && (decide (x83 ≤ (1099511627776 : Int)))) && (decide (x84 ≥ promised_10))))) rfl rfl rfl hb85) rfl (fun _ => q_eql (a := r77.2) (b := (0 : Int)) rfl rfl rfl) ?_
              refine rd_pure (i := 20) (d := (some 86)) hD (by kernel_rfl) (by kernel_rfl) rfl (.by_ 17 false 83 (!((r77.2 == (0 : Int)) == (((decide (x82 ≥ (1 : Int))) && (decide (x83 ≤ (1099511627776 : Int)))) && (decide (x84 ≥ promised_10))))) rfl rfl rfl hb85) rfl (fun _ => q_move (v := .bool ((r77.2 == (0 : Int)))) rfl rfl) ?_
              refine ro_if (b := (r77.2 == (0 : Int))) h (fun hb86 h => ?_) (fun hb86 h => ?_)
              · refine rd_pure (i := 21) (d := (some 87)) hD (by kernel_rfl) (by kernel_rfl) rfl (.by_ 20 true 86 (r77.2 == (0 : Int)) rfl rfl rfl hb86) rfl (fun _ => q_move (v := tSlc.enc (r77.1)) rfl rfl) ?_
                refine rd_pure (i := 22) (d := (some 88)) hD (by kernel_rfl) (by kernel_rfl) rfl (.by_ 20 true 86 (r77.2 == (0 : Int)) rfl rfl rfl hb86) rfl (fun _ => q_move (v := tSlc.enc (was_11)) rfl rfl) ?_
                refine rd_one (i := 23) (by kernel_rfl) ?_
                refine po_wp rfl (.by_ 20 true 86 (r77.2 == (0 : Int)) rfl rfl rfl hb86) (wp_cl (d := (some 89)) rfl (q_call (k := 9) (l := [tSlc.enc (r77.1), tSlc.enc (was_11)]) rfl ent9 rfl) h ?_)
                intro r88 w87 h
                obtain ⟨hk89, h⟩ := h
                obtain ⟨hk90, h⟩ := h
                obtain ⟨hk91, h⟩ := h
                refine ⟨(hk_keep (fun _ => hk91) (hk_keep (fun _ => hk90) (hk_keep (fun _ => hk89) hk_nil))), ?_⟩
                refine rd_pure (i := 24) (d := (some 90)) hD (by kernel_rfl) (by kernel_rfl) rfl (.by_ 20 true 86 (r77.2 == (0 : Int)) rfl rfl rfl hb86) rfl (fun _ => q_not (b := r88) rfl rfl) ?_
                refine rd_pure (i := 25) (d := (some 91)) hD (by kernel_rfl) (by kernel_rfl) rfl (.by_ 20 true 86 (r77.2 == (0 : Int)) rfl rfl rfl hb86) rfl (fun _ => q_move (v := .bool ((!r88))) rfl rfl) ?_
                refine ro_if (b := (!r88)) h (fun hb92 h => ?_) (fun hb92 h => ?_)
                · refine rd_bar (i := 26) (d := (some 92)) hD (by kernel_rfl) (by kernel_rfl) rfl (.by_ 25 false 91 (!r88) rfl rfl rfl hb92) rfl ?_
                  refine rd_bar (i := 28) (d := (some 94)) hD (by kernel_rfl) (by kernel_rfl) rfl (.by_ 25 false 91 (!r88) rfl rfl rfl hb92) rfl ?_
                  refine rd_bar (i := 29) (d := (some 95)) hD (by kernel_rfl) (by kernel_rfl) rfl (.by_ 25 false 91 (!r88) rfl rfl rfl hb92) rfl ?_
                  refine rd_one (i := 27) (by kernel_rfl) ?_
                  refine po_bar (d := (some 93)) rfl (.by_ 25 false 91 (!r88) rfl rfl rfl hb92) rfl ⟨fun _ _ _ h => h, ?_⟩
                  refine rd_bar (i := 30) (d := (some 96)) hD (by kernel_rfl) (by kernel_rfl) rfl (.by_ 25 false 91 (!r88) rfl rfl rfl hb92) rfl ?_
                  refine rd_pure (i := 31) (d := (some 97)) hD (by kernel_rfl) (by kernel_rfl) rfl (.by_ 20 true 86 (r77.2 == (0 : Int)) rfl rfl rfl hb86) rfl (fun _ => q_pickT (v := .bool (true)) (b := (!r88)) rfl rfl hb92 rfl) ?_
                  refine rd_pure (i := 32) (d := (some 98)) hD (by kernel_rfl) (by kernel_rfl) rfl (.by_ 17 false 83 (!((r77.2 == (0 : Int)) == (((decide (x82 ≥ (1 : Int))) && (decide (x83 ≤ (1099511627776 : Int)))) && (decide (x84 ≥ promised_10))))) rfl rfl rfl hb85) rfl (fun _ => q_pickT (v := .bool (true)) (b := (r77.2 == (0 : Int))) rfl rfl hb86 rfl) ?_
                  refine rp 33 99 hD rfl rfl rfl (fun _ => q_pickF (v := .bool (true)) (b := (!((r77.2 == (0 : Int)) == (((decide (x82 ≥ (1 : Int))) && (decide (x83 ≤ (1099511627776 : Int)))) && (decide (x84 ≥ promised_10)))))) rfl rfl hb85 rfl) ?_
                  refine rd_nil (by kernel_rfl) ?_
                  exact ⟨(true), _, arr (upd_step (upd_step (upd_step (upd_step (upd_step (upd_step rfl rfl) rfl) rfl) rfl) rfl) rfl), h⟩
                · refine rd_pure (i := 26) (d := (some 92)) hD (by kernel_rfl) (by kernel_rfl) rfl (.by_ 25 false 91 (!r88) rfl rfl rfl hb92) rfl (fun _ => q_move (v := .pointer (r5.1)) rfl rfl) ?_
                  refine rd_pure (i := 28) (d := (some 94)) hD (by kernel_rfl) (by kernel_rfl) rfl (.by_ 25 false 91 (!r88) rfl rfl rfl hb92) rfl (fun _ => q_fieldAddr (a := a19) (off := 3) rfl Try.underlying39 rfl rfl ok2 (by decide) rfl) ?_
                  obtain ⟨x93, hx93, h⟩ := h
                  refine rd_read (i := 29) (d := (some 95)) (fun W => (RdAt (tInt .i64) (a19.add 3) W) x93) hD (by kernel_rfl) (by kernel_rfl) rfl (.by_ 25 false 91 (!r88) rfl rfl rfl hb92) rfl (fun W hr => q_load (T := (tInt .i64)) (u := x93) (a := (a19.add 3)) rfl ok2 rfl hr) hx93 ?_
                  refine rd_one (i := 27) (by kernel_rfl) ?_
                  refine po_wp rfl (.by_ 25 false 91 (!r88) rfl rfl rfl hb92) (wp_cl (d := (some 93)) rfl (q_call (k := 15) (l := [.pointer (r5.1)]) rfl ent15 rfl) h ?_)
                  intro r95 w94 h
                  obtain ⟨hk96, h⟩ := h
                  obtain ⟨hk97, h⟩ := h
                  obtain ⟨hk98, h⟩ := h
                  obtain ⟨hk99, h⟩ := h
                  refine ⟨(hk_keep (fun _ => hk99) (hk_keep (fun _ => hk98) (hk_keep (fun _ => hk97) (hk_keep (fun _ => hk96) hk_nil)))), ?_⟩
                  refine rd_pure (i := 30) (d := (some 96)) hD (by kernel_rfl) (by kernel_rfl) rfl (.by_ 25 false 91 (!r88) rfl rfl rfl hb92) rfl (fun _ => q_neq (a := r95) (b := x93) rfl rfl rfl) ?_
                  refine rd_pure (i := 31) (d := (some 97)) hD (by kernel_rfl) (by kernel_rfl) rfl (.by_ 20 true 86 (r77.2 == (0 : Int)) rfl rfl rfl hb86) rfl (fun _ => q_pickF (v := .bool ((r95 != x93))) (b := (!r88)) rfl rfl hb92 rfl) ?_
                  refine rd_pure (i := 32) (d := (some 98)) hD (by kernel_rfl) (by kernel_rfl) rfl (.by_ 17 false 83 (!((r77.2 == (0 : Int)) == (((decide (x82 ≥ (1 : Int))) && (decide (x83 ≤ (1099511627776 : Int)))) && (decide (x84 ≥ promised_10))))) rfl rfl rfl hb85) rfl (fun _ => q_pickT (v := .bool ((r95 != x93))) (b := (r77.2 == (0 : Int))) rfl rfl hb86 rfl) ?_
                  refine rp 33 99 hD rfl rfl rfl (fun _ => q_pickF (v := .bool ((r95 != x93))) (b := (!((r77.2 == (0 : Int)) == (((decide (x82 ≥ (1 : Int))) && (decide (x83 ≤ (1099511627776 : Int)))) && (decide (x84 ≥ promised_10)))))) rfl rfl hb85 rfl) ?_
                  refine rd_nil (by kernel_rfl) ?_
                  exact ⟨((r95 != x93)), _, arr (upd_step (upd_step (upd_step (upd_step (upd_step (upd_step rfl rfl) rfl) rfl) rfl) rfl) rfl), h⟩
              · refine rd_bar (i := 21) (d := (some 87)) hD (by kernel_rfl) (by kernel_rfl) rfl (.by_ 20 true 86 (r77.2 == (0 : Int)) rfl rfl rfl hb86) rfl ?_
                refine rd_bar (i := 22) (d := (some 88)) hD (by kernel_rfl) (by kernel_rfl) rfl (.by_ 20 true 86 (r77.2 == (0 : Int)) rfl rfl rfl hb86) rfl ?_
                refine rd_one (i := 23) (by kernel_rfl) ?_
                refine po_bar (d := (some 89)) rfl (.by_ 20 true 86 (r77.2 == (0 : Int)) rfl rfl rfl hb86) rfl ⟨fun _ _ _ h => h, ?_⟩
                refine rd_bar (i := 24) (d := (some 90)) hD (by kernel_rfl) (by kernel_rfl) rfl (.by_ 20 true 86 (r77.2 == (0 : Int)) rfl rfl rfl hb86) rfl ?_
                refine rd_bar (i := 25) (d := (some 91)) hD (by kernel_rfl) (by kernel_rfl) rfl (.by_ 20 true 86 (r77.2 == (0 : Int)) rfl rfl rfl hb86) rfl ?_
                refine rd_bar (i := 26) (d := (some 92)) hD (by kernel_rfl) (by kernel_rfl) rfl (.undef 25 false 91 rfl rfl rfl) rfl ?_
                refine rd_bar (i := 28) (d := (some 94)) hD (by kernel_rfl) (by kernel_rfl) rfl (.undef 25 false 91 rfl rfl rfl) rfl ?_
                refine rd_bar (i := 29) (d := (some 95)) hD (by kernel_rfl) (by kernel_rfl) rfl (.undef 25 false 91 rfl rfl rfl) rfl ?_
                refine rd_one (i := 27) (by kernel_rfl) ?_
                refine po_bar (d := (some 93)) rfl (.undef 25 false 91 rfl rfl rfl) rfl ⟨fun _ _ _ h => h, ?_⟩
                refine rd_bar (i := 30) (d := (some 96)) hD (by kernel_rfl) (by kernel_rfl) rfl (.undef 25 false 91 rfl rfl rfl) rfl ?_
                refine rd_bar (i := 31) (d := (some 97)) hD (by kernel_rfl) (by kernel_rfl) rfl (.by_ 20 true 86 (r77.2 == (0 : Int)) rfl rfl rfl hb86) rfl ?_
                refine rd_pure (i := 32) (d := (some 98)) hD (by kernel_rfl) (by kernel_rfl) rfl (.by_ 17 false 83 (!((r77.2 == (0 : Int)) == (((decide (x82 ≥ (1 : Int))) && (decide (x83 ≤ (1099511627776 : Int)))) && (decide (x84 ≥ promised_10))))) rfl rfl rfl hb85) rfl (fun _ => q_pickF (v := .bool (false)) (b := (r77.2 == (0 : Int))) rfl rfl hb86 rfl) ?_
                refine rp 33 99 hD rfl rfl rfl (fun _ => q_pickF (v := .bool (false)) (b := (!((r77.2 == (0 : Int)) == (((decide (x82 ≥ (1 : Int))) && (decide (x83 ≤ (1099511627776 : Int)))) && (decide (x84 ≥ promised_10)))))) rfl rfl hb85 rfl) ?_
                refine rd_nil (by kernel_rfl) ?_
                exact ⟨(false), _, arr (upd_step (upd_step (upd_step (upd_step (upd_step (upd_step rfl rfl) rfl) rfl) rfl) rfl) rfl), h⟩
        · refine wp_seq ?_
          refine wp_text [0, 1, 2, 3, 4, 5, 6, 7, 8] rfl ?_
          refine rv 100 rfl rfl rfl (q_move (v := .pointer (r5.1)) rfl rfl) ?_
          refine rv 101 rfl rfl rfl (q_fieldAddr (a := a19) (off := 3) rfl Try.underlying39 rfl rfl ok2 (by decide) rfl) ?_
          obtain ⟨x100, hx100, h⟩ := h
          refine rv 102 rfl rfl rfl (q_load (T := (tInt .i64)) (u := x100) (a := (a19.add 3)) rfl ok2 rfl hx100) ?_
          refine rv 103 rfl rfl rfl (q_fieldAddr (a := a19) (off := 2) rfl Try.underlying39 rfl rfl ok3 (by decide) rfl) ?_
          obtain ⟨x101, hx101, h⟩ := h
          refine rv 104 rfl rfl rfl (q_load (T := (tInt .i64)) (u := x101) (a := (a19.add 2)) rfl ok3 rfl hx101) ?_
          refine rv 105 rfl rfl rfl (q_fieldAddr (a := a19) (off := 4) rfl Try.underlying39 rfl rfl ok9 (by decide) rfl) ?_
          obtain ⟨x102, hx102, h⟩ := h
          refine rv 106 rfl rfl rfl (q_load (T := tStr) (u := x102) (a := (a19.add 4)) rfl ok9 rfl hx102) ?_
          refine ro_wp rfl (.free rfl) (wp_cl (d := (some 107)) rfl (q_call (k := 16) (l := [.pointer (r5.1), .int .i64 (x100), .int .i64 (x101), .string ⟨(x102).toArray⟩]) rfl ent16 rfl) h ?_)
          intro r104 w103 h
          refine rv 13 rfl rfl rfl (q_assign (v := .int .i64 (r104)) rfl rfl) ?_
          refine ro_nil ?_
          refine seq_join (σ := Bool) (J := fun (s : Bool) w => F4_j7 r5 promised_10 was_11 i_12 s w K14 R) (fr := fun g (s : Bool) => upd (upd (upd (upd (upd (upd (g) 0 (tSlc.enc (l_1))) 5 (.pointer (r5.1))) 7 (.int .i64 (promised_10))) 8 (tSlc.enc (was_11))) 9 (.int .i64 (i_12))) 122 (.bool (s))) ?_ ?_
          · rintro t_105 g w106 h
            unfold F4_j7 at h
            refine wp_if (b := t_105) rfl h (fun hb107 h => ?_) (fun hb107 h => ?_)
            · refine wp_seq ?_
              refine wp_text [0] rfl ?_
              refine rv 2 rfl rfl rfl (q_assign (v := .bool (false)) rfl rfl) ?_
              refine ro_nil ?_
              refine wp_ret ?_
              exact ret_ok rfl (.cons (.tmp (v := .bool (false)) rfl) .nil) ⟨false, rfl, h⟩
            · refine wp_skip ?_
              exact ⟨(), _, arr (upd_step (upd_step (upd_step (upd_step (upd_step rfl rfl) rfl) rfl) rfl) rfl), h⟩
          · obtain ⟨w108, hw108, h⟩ := dr_open h
            refine wp_drawn 15 mixed rfl (by kernel_rfl) (by intro c a d v w h; cases d <;> exact h) hw108 (fun hD => ?_)
            refine rp 0 108 hD rfl rfl rfl (fun _ => q_move (v := .int .i64 (r104)) rfl rfl) ?_
            refine rp 1 109 hD rfl rfl rfl (fun _ => q_eql (a := r104) (b := (0 : Int)) rfl rfl rfl) ?_
            refine rp 2 110 hD rfl rfl rfl (fun _ => q_move (v := .bool ((r104 == (0 : Int)))) rfl rfl) ?_
            refine ro_if (b := (r104 == (0 : Int))) h (fun hb109 h => ?_) (fun hb109 h => ?_)
            · refine rd_pure (i := 3) (d := (some 111)) hD (by kernel_rfl) (by kernel_rfl) rfl (.by_ 2 true 110 (r104 == (0 : Int)) rfl rfl rfl hb109) rfl (fun _ => q_fieldAddr (a := a19) (off := 3) rfl Try.underlying39 rfl rfl ok2 (by decide) rfl) ?_
              refine rd_pure (i := 5) (d := (some 113)) hD (by kernel_rfl) (by kernel_rfl) rfl (.by_ 2 true 110 (r104 == (0 : Int)) rfl rfl rfl hb109) rfl (fun _ => q_move (v := .int .i64 (promised_10)) rfl rfl) ?_
              obtain ⟨x110, hx110, h⟩ := h
              refine rd_read (i := 4) (d := (some 112)) (fun W => (RdAt (tInt .i64) (a19.add 3) W) x110) hD (by kernel_rfl) (by kernel_rfl) rfl (.by_ 2 true 110 (r104 == (0 : Int)) rfl rfl rfl hb109) rfl (fun W hr => q_load (T := (tInt .i64)) (u := x110) (a := (a19.add 3)) rfl ok2 rfl hr) hx110 ?_
              refine rd_pure (i := 6) (d := (some 114)) hD (by kernel_rfl) (by kernel_rfl) rfl (.by_ 2 true 110 (r104 == (0 : Int)) rfl rfl rfl hb109) rfl (fun _ => q_lss (a := x110) (b := promised_10) rfl rfl rfl) ?_
              refine rd_pure (i := 7) (d := (some 115)) hD (by kernel_rfl) (by kernel_rfl) rfl (.by_ 2 true 110 (r104 == (0 : Int)) rfl rfl rfl hb109) rfl (fun _ => q_move (v := .bool ((decide (x110 < promised_10)))) rfl rfl) ?_
              refine ro_if (b := (decide (x110 < promised_10))) h (fun hb111 h => ?_) (fun hb111 h => ?_)
              · refine rd_bar (i := 8) (d := (some 116)) hD (by kernel_rfl) (by kernel_rfl) rfl (.by_ 7 false 115 (decide (x110 < promised_10)) rfl rfl rfl hb111) rfl ?_
                refine rd_bar (i := 10) (d := (some 118)) hD (by kernel_rfl) (by kernel_rfl) rfl (.by_ 7 false 115 (decide (x110 < promised_10)) rfl rfl rfl hb111) rfl ?_
                refine rd_bar (i := 11) (d := (some 119)) hD (by kernel_rfl) (by kernel_rfl) rfl (.by_ 7 false 115 (decide (x110 < promised_10)) rfl rfl rfl hb111) rfl ?_
                refine rd_one (i := 9) (by kernel_rfl) ?_
                refine po_bar (d := (some 117)) rfl (.by_ 7 false 115 (decide (x110 < promised_10)) rfl rfl rfl hb111) rfl ⟨fun _ _ _ h => h, ?_⟩
                refine rd_bar (i := 12) (d := (some 120)) hD (by kernel_rfl) (by kernel_rfl) rfl (.by_ 7 false 115 (decide (x110 < promised_10)) rfl rfl rfl hb111) rfl ?_
                refine rd_pure (i := 13) (d := (some 121)) hD (by kernel_rfl) (by kernel_rfl) rfl (.by_ 2 true 110 (r104 == (0 : Int)) rfl rfl rfl hb109) rfl (fun _ => q_pickT (v := .bool (true)) (b := (decide (x110 < promised_10))) rfl rfl hb111 rfl) ?_
                refine rp 14 122 hD rfl rfl rfl (fun _ => q_pickT (v := .bool (true)) (b := (r104 == (0 : Int))) rfl rfl hb109 rfl) ?_
                refine rd_nil (by kernel_rfl) ?_
                exact ⟨(true), _, arr (upd_step (upd_step (upd_step (upd_step (upd_step (upd_step rfl rfl) rfl) rfl) rfl) rfl) rfl), h⟩
              · refine rd_pure (i := 8) (d := (some 116)) hD (by kernel_rfl) (by kernel_rfl) rfl (.by_ 7 false 115 (decide (x110 < promised_10)) rfl rfl rfl hb111) rfl (fun _ => q_move (v := .pointer (r5.1)) rfl rfl) ?_
                refine rd_pure (i := 10) (d := (some 118)) hD (by kernel_rfl) (by kernel_rfl) rfl (.by_ 7 false 115 (decide (x110 < promised_10)) rfl rfl rfl hb111) rfl (fun _ => q_fieldAddr (a := a19) (off := 3) rfl Try.underlying39 rfl rfl ok2 (by decide) rfl) ?_
                obtain ⟨x112, hx112, h⟩ := h
                refine rd_read (i := 11) (d := (some 119)) (fun W => (RdAt (tInt .i64) (a19.add 3) W) x112) hD (by kernel_rfl) (by kernel_rfl) rfl (.by_ 7 false 115 (decide (x110 < promised_10)) rfl rfl rfl hb111) rfl (fun W hr => q_load (T := (tInt .i64)) (u := x112) (a := (a19.add 3)) rfl ok2 rfl hr) hx112 ?_
                refine rd_one (i := 9) (by kernel_rfl) ?_
                refine po_wp rfl (.by_ 7 false 115 (decide (x110 < promised_10)) rfl rfl rfl hb111) (wp_cl (d := (some 117)) rfl (q_call (k := 15) (l := [.pointer (r5.1)]) rfl ent15 rfl) h ?_)
                intro r114 w113 h
                obtain ⟨hk115, h⟩ := h
                obtain ⟨hk116, h⟩ := h
                refine ⟨(hk_keep (fun _ => hk116) (hk_keep (fun _ => hk115) hk_nil)), ?_⟩
                refine rd_pure (i := 12) (d := (some 120)) hD (by kernel_rfl) (by kernel_rfl) rfl (.by_ 7 false 115 (decide (x110 < promised_10)) rfl rfl rfl hb111) rfl (fun _ => q_neq (a := r114) (b := x112) rfl rfl rfl) ?_
                refine rd_pure (i := 13) (d := (some 121)) hD (by kernel_rfl) (by kernel_rfl) rfl (.by_ 2 true 110 (r104 == (0 : Int)) rfl rfl rfl hb109) rfl (fun _ => q_pickF (v := .bool ((r114 != x112))) (b := (decide (x110 < promised_10))) rfl rfl hb111 rfl) ?_
                refine rp 14 122 hD rfl rfl rfl (fun _ => q_pickT (v := .bool ((r114 != x112))) (b := (r104 == (0 : Int))) rfl rfl hb109 rfl) ?_
                refine rd_nil (by kernel_rfl) ?_
                exact ⟨((r114 != x112)), _, arr (upd_step (upd_step (upd_step (upd_step (upd_step (upd_step rfl rfl) rfl) rfl) rfl) rfl) rfl), h⟩
            · refine rd_bar (i := 3) (d := (some 111)) hD (by kernel_rfl) (by kernel_rfl) rfl (.by_ 2 true 110 (r104 == (0 : Int)) rfl rfl rfl hb109) rfl ?_
              refine rd_bar (i := 5) (d := (some 113)) hD (by kernel_rfl) (by kernel_rfl) rfl (.by_ 2 true 110 (r104 == (0 : Int)) rfl rfl rfl hb109) rfl ?_
              refine rd_bar (i := 4) (d := (some 112)) hD (by kernel_rfl) (by kernel_rfl) rfl (.by_ 2 true 110 (r104 == (0 : Int)) rfl rfl rfl hb109) rfl ?_
              refine rd_bar (i := 6) (d := (some 114)) hD (by kernel_rfl) (by kernel_rfl) rfl (.by_ 2 true 110 (r104 == (0 : Int)) rfl rfl rfl hb109) rfl ?_
              refine rd_bar (i := 7) (d := (some 115)) hD (by kernel_rfl) (by kernel_rfl) rfl (.by_ 2 true 110 (r104 == (0 : Int)) rfl rfl rfl hb109) rfl ?_
              refine rd_bar (i := 8) (d := (some 116)) hD (by kernel_rfl) (by kernel_rfl) rfl (.undef 7 false 115 rfl rfl rfl) rfl ?_
              refine rd_bar (i := 10) (d := (some 118)) hD (by kernel_rfl) (by kernel_rfl) rfl (.undef 7 false 115 rfl rfl rfl) rfl ?_
              refine rd_bar (i := 11) (d := (some 119)) hD (by kernel_rfl) (by kernel_rfl) rfl (.undef 7 false 115 rfl rfl rfl) rfl ?_
              refine rd_one (i := 9) (by kernel_rfl) ?_
              refine po_bar (d := (some 117)) rfl (.undef 7 false 115 rfl rfl rfl) rfl ⟨fun _ _ _ h => h, ?_⟩
              refine rd_bar (i := 12) (d := (some 120)) hD (by kernel_rfl) (by kernel_rfl) rfl (.undef 7 false 115 rfl rfl rfl) rfl ?_
              refine rd_bar (i := 13) (d := (some 121)) hD (by kernel_rfl) (by kernel_rfl) rfl (.by_ 2 true 110 (r104 == (0 : Int)) rfl rfl rfl hb109) rfl ?_
              refine rp 14 122 hD rfl rfl rfl (fun _ => q_pickF (v := .bool (false)) (b := (r104 == (0 : Int))) rfl rfl hb109 rfl) ?_
              refine rd_nil (by kernel_rfl) ?_
              exact ⟨(false), _, arr (upd_step (upd_step (upd_step (upd_step (upd_step (upd_step rfl rfl) rfl) rfl) rfl) rfl) rfl), h⟩
    · refine wp_exit ?_
      refine wp_seq ?_
      refine wp_text [0] rfl ?_
      refine rv 2 rfl rfl rfl (q_assign (v := .bool (true)) rfl rfl) ?_
      refine ro_nil ?_
      refine wp_ret ?_
      exact ret_ok rfl (.cons (.tmp (v := .bool (true)) rfl) .nil) ⟨true, rfl, h⟩

end Go.Proofs.Ytjkmeooncmhonaa.Cf
