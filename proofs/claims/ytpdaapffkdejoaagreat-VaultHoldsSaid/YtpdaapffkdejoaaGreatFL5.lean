/- The characteristic formula of a law, and that it is. Printed by gen.py (own tool). -/
import Derived.Test.YtpdaapffkdejoaaGreatFs
namespace Go.Proofs.YtpdaapffkdejoaaGreat.Cf
open Go
set_option maxRecDepth 100000
set_option maxHeartbeats 1000000
set_option linter.unusedVariables false
set_option linter.unusedSimpArgs false

-- moiety/moietylaw15.VaultHolds
def F5_l3 (a4 : Addr) (r7 : (Option Addr)) (r13 : Slc) (i_14 : Int) (a19 : Addr) (k_27 : Int) (w28 : World) (K16 : Int → World → Prop) (K29 : Int → World → Prop) (R : Bool → World → Prop) : Prop :=
  if (decide (k_27 < i_14)) = true then (
    dr w28 fun w30 =>
    ex (IxA r13 6 k_27) fun a31 =>
    ex (RdAt (tInt .i64) ((a31.add 0).add 1) w30) fun x32 =>
    ex (RdAt (tInt .i64) ((a19.add 0).add 1) w30) fun x33 =>
    if (x32 == x33) = true then (
      R false w30
    ) else (
      K29 ((IntKind.i64.wrap (k_27 + (1 : Int)))) w30
    )
  ) else (
    ex (RdAt (tInt .i64) (a19.add 4) w28) fun x35 =>
    cl Tryz.prog 19 [.pointer (r7), .int .i64 (x35)] (tInt .i64) w28 fun r37 w36 =>
    if (r37 != (160 : Int)) = true then (
      R false w36
    ) else (
      ex (RdAt T41 a4 w36) fun x38 =>
      cl Tryz.prog 20 [T41.enc (x38)] T52 w36 fun r40 w39 =>
      nw 53 T52 Z52 w39 fun a41 w42 =>
      st T52 a41 r40 w42 fun w43 =>
      ex (RdAt (tInt .i64) ((a19.add 0).add 1) w43) fun x44 =>
      st (tInt .i64) (a41.add 1) x44 w43 fun w45 =>
      ex (RdAt (tInt .i64) (a4.add 3) w45) fun x46 =>
      ex (RdAt T52 a41 w45) fun x47 =>
      cl Tryz.prog 21 [.pointer (r7), .int .i64 (x46), T52.enc (x47)] (tInt .i64) w45 fun r49 w48 =>
      if (r49 == (0 : Int)) = true then (
        R false w48
      ) else (
        K16 ((IntKind.i64.wrap (i_14 + (1 : Int)))) w48
      )
    )
  )
def F5_j2 (a4 : Addr) (r7 : (Option Addr)) (r13 : Slc) (i_14 : Int) (a19 : Addr) (t_25 : Bool) (w26 : World) (K16 : Int → World → Prop) (R : Bool → World → Prop) : Prop :=
  if t_25 = true then (
    R false w26
  ) else (
    lp (fun (s : Int) w K => F5_l3 a4 r7 r13 i_14 a19 s w K16 K R) ((0 : Int)) w26
  )
def F5_l1 (a4 : Addr) (r7 : (Option Addr)) (r13 : Slc) (i_14 : Int) (w15 : World) (K16 : Int → World → Prop) (R : Bool → World → Prop) : Prop :=
  if (decide (i_14 < (r13.len : Int))) = true then (
    ex (IxA r13 6 i_14) fun a17 =>
    ex (RdAt T54 a17 w15) fun x18 =>
    nw 55 T54 Z54 w15 fun a19 w20 =>
    st T54 a19 x18 w20 fun w21 =>
    ex (RdAt (tInt .i64) ((a19.add 0).add 0) w21) fun x22 =>
    cl Tryz.prog 14 [.pointer (r7), .int .i64 (x22)] (tTup2 (tInt .i64) (tInt .i64)) w21 fun r24 w23 =>
    dr w23 fun w54 =>
    ex (fun x => (!(r24.1 != (1 : Int))) = true → (RdAt (tInt .i64) (a19.add 4) w54) x) fun x55 =>
    if ((r24.1 != (1 : Int)) || (r24.2 != x55)) = true then (
      if true = true then (
        F5_j2 a4 r7 r13 i_14 a19 true w54 K16 R
      ) else (
        ex (RdAt (tInt .i64) (a19.add 4) w54) fun x58 =>
        cl Tryz.prog 18 [.pointer (r7)] (tInt .i64) w54 fun r60 w59 =>
        kp ((fun x => (!(r24.1 != (1 : Int))) = true → (RdAt (tInt .i64) (a19.add 4) w59) x) x55) <|
        kp ((RdAt (tInt .i64) (a19.add 4) w59) x58) <|
        ex (fun x => ((!(decide (x58 > r60))) && (decide (i_14 > (0 : Int)))) = true → (IxA r13 6 (IntKind.i64.wrap (i_14 - (1 : Int)))) x) fun a63 =>
        ex (fun x => ((!(decide (x58 > r60))) && (decide (i_14 > (0 : Int)))) = true → (RdAt (tInt .i64) ((a63.add 0).add 0) w59) x) fun x64 =>
        ex (fun x => ((!(decide (x58 > r60))) && (decide (i_14 > (0 : Int)))) = true → (RdAt (tInt .i64) ((a19.add 0).add 0) w59) x) fun x65 =>
        F5_j2 a4 r7 r13 i_14 a19 ((decide (x58 > r60)) || ((decide (i_14 > (0 : Int))) && (decide (x64 ≥ x65)))) w59 K16 R
      )
    ) else (
      ex (NC r7) fun a66 =>
      ex (RdAt (tInt .i64) (a19.add 4) w54) fun x67 =>
      ex (RdAt T29 (a66.add 0) w54) fun x68 =>
      cl Tryz.prog 9 [T29.enc (x68)] (tInt .i64) w54 fun r70 w69 =>
      kp ((fun x => (!(r24.1 != (1 : Int))) = true → (RdAt (tInt .i64) (a19.add 4) w69) x) x55) <|
      kp ((RdAt (tInt .i64) (a19.add 4) w69) x67) <|
      if (decide (x67 ≤ r70)) = true then (
        ex (fun x => ((!true) && (decide (i_14 > (0 : Int)))) = true → (IxA r13 6 (IntKind.i64.wrap (i_14 - (1 : Int)))) x) fun a74 =>
        ex (fun x => ((!true) && (decide (i_14 > (0 : Int)))) = true → (RdAt (tInt .i64) ((a74.add 0).add 0) w69) x) fun x75 =>
        ex (fun x => ((!true) && (decide (i_14 > (0 : Int)))) = true → (RdAt (tInt .i64) ((a19.add 0).add 0) w69) x) fun x76 =>
        F5_j2 a4 r7 r13 i_14 a19 (true || ((decide (i_14 > (0 : Int))) && (decide (x75 ≥ x76)))) w69 K16 R
      ) else (
        ex (RdAt (tInt .i64) (a19.add 4) w69) fun x77 =>
        cl Tryz.prog 18 [.pointer (r7)] (tInt .i64) w69 fun r79 w78 =>
        kp ((fun x => (!(r24.1 != (1 : Int))) = true → (RdAt (tInt .i64) (a19.add 4) w78) x) x55) <|
        kp ((RdAt (tInt .i64) (a19.add 4) w78) x67) <|
        kp ((RdAt T29 (a66.add 0) w78) x68) <|
        kp ((RdAt (tInt .i64) (a19.add 4) w78) x77) <|
        ex (fun x => ((!(decide (x77 > r79))) && (decide (i_14 > (0 : Int)))) = true → (IxA r13 6 (IntKind.i64.wrap (i_14 - (1 : Int)))) x) fun a84 =>
        ex (fun x => ((!(decide (x77 > r79))) && (decide (i_14 > (0 : Int)))) = true → (RdAt (tInt .i64) ((a84.add 0).add 0) w78) x) fun x85 =>
        ex (fun x => ((!(decide (x77 > r79))) && (decide (i_14 > (0 : Int)))) = true → (RdAt (tInt .i64) ((a19.add 0).add 0) w78) x) fun x86 =>
        F5_j2 a4 r7 r13 i_14 a19 ((decide (x77 > r79)) || ((decide (i_14 > (0 : Int))) && (decide (x85 ≥ x86)))) w78 K16 R
      )
    )
  ) else (
    R true w15
  )
def F5 (rate_1 : Nat) (l_2 : Slc) (o_3 : S41) (w : World) (R : Bool → World → Prop) : Prop :=
  nw 42 T41 o_3 w fun a4 w5 =>
  cl Tryz.prog 7 [.float .f64 (rate_1), tSlc.enc (l_2)] tPtr w5 fun r7 w6 =>
  cl Tryz.prog 8 [] tBool w6 fun r9 w8 =>
  if ((!r9) || r7.isNone) = true then (
    cl Tryz.prog 8 [] tBool w8 fun r11 w10 =>
    R r11 w10
  ) else (
    cl Tryz.prog 17 [.pointer (r7)] tSlc w8 fun r13 w12 =>
    lp (fun (s : Int) w K => F5_l1 a4 r7 r13 s w K R) ((0 : Int)) w12
  )
theorem F5_ok {rate_1 : Nat} {l_2 : Slc} {o_3 : S41} {w : World} {R : Bool → World → Prop} (h : F5 rate_1 l_2 o_3 w R) : cl Tryz.prog 5 [.float .f64 (rate_1), tSlc.enc (l_2), T41.enc (o_3)] tBool w R := by
  unfold F5 at h
  refine calls_start 119 Tryz.func5 rfl rfl (Nat.le_of_ble_eq_true rfl) ?_
  refine wp_seq ?_
  refine wp_text [0, 1] rfl ?_
  obtain ⟨a4, w5, ha4, hw5, h⟩ := nw_open h
  refine rv 5 rfl rfl rfl (q_box (u := o_3) rfl ok42 rfl ha4 hw5) ?_
  refine rv 6 rfl rfl rfl (q_assign (v := .bool (false)) rfl rfl) ?_
  refine ro_nil ?_
  refine wp_seq ?_
  refine wp_text [0, 1, 2, 3] rfl ?_
  refine rv 15 rfl rfl rfl (q_move (v := .float .f64 (rate_1)) rfl rfl) ?_
  refine rv 16 rfl rfl rfl (q_move (v := tSlc.enc (l_2)) rfl rfl) ?_
  refine ro_wp rfl (.free rfl) (wp_cl (d := (some 17)) rfl (q_call (k := 7) (l := [.float .f64 (rate_1), tSlc.enc (l_2)]) rfl ent7 rfl) h ?_)
  intro r7 w6 h
  refine rv 7 rfl rfl rfl (q_assign (v := .pointer (r7)) rfl rfl) ?_
  refine ro_nil ?_
  refine wp_seq ?_
  refine wp_seq ?_
  refine wp_text [0, 1, 2, 3, 4, 5] rfl ?_
  refine ro_wp rfl (.free rfl) (wp_cl (d := (some 18)) rfl (q_call (k := 8) (l := []) rfl ent8 rfl) h ?_)
  intro r9 w8 h
  refine rv 19 rfl rfl rfl (q_not (b := r9) rfl rfl) ?_
  refine rv 20 rfl rfl rfl (q_move (v := .bool ((!r9))) rfl rfl) ?_
  refine ro_gval (g := (!(!r9))) (d := (some 21)) rfl (.no 2 20 true (!r9) rfl rfl rfl rfl) rfl (fun hg => q_move (v := .pointer (r7)) rfl rfl) ?_
  refine ro_gval (g := (!(!r9))) (d := (some 22)) rfl (.no 2 20 true (!r9) rfl rfl rfl rfl) rfl (fun hg => q_eqP0 (a := r7) rfl Tryz.underlying24 (gvb_yes hg) rfl) ?_
  refine rv 23 rfl rfl rfl (q_pickGF (a := (!r9)) (c := r7.isNone) rfl rfl rfl rfl) ?_
  refine ro_nil ?_
  refine wp_if (b := ((!r9) || r7.isNone)) rfl h (fun hb88 h => ?_) (fun hb88 h => ?_)
  · refine wp_seq ?_
    refine wp_text [0, 1] rfl ?_
    refine ro_wp rfl (.free rfl) (wp_cl (d := (some 24)) rfl (q_call (k := 8) (l := []) rfl ent8 rfl) h ?_)
    intro r11 w10 h
    refine rv 6 rfl rfl rfl (q_assign (v := .bool (r11)) rfl rfl) ?_
    refine ro_nil ?_
    refine wp_ret ?_
    exact ret_ok rfl (.cons (.tmp (v := .bool (r11)) rfl) .nil) ⟨r11, rfl, h⟩
  · refine wp_skip ?_
    refine wp_seq ?_
    refine wp_text [0, 1, 2] rfl ?_
    refine rv 25 rfl rfl rfl (q_move (v := .pointer (r7)) rfl rfl) ?_
    refine ro_wp rfl (.free rfl) (wp_cl (d := (some 26)) rfl (q_call (k := 17) (l := [.pointer (r7)]) rfl ent17 rfl) h ?_)
    intro r13 w12 h
    refine rv 8 rfl rfl rfl (q_assign (v := tSlc.enc (r13)) rfl rfl) ?_
    refine ro_nil ?_
    refine wp_seq ?_
    refine wp_seq ?_
    refine wp_text [0] rfl ?_
    refine rv 9 rfl rfl rfl (q_assign (v := .int .i64 ((0 : Int))) rfl rfl) ?_
    refine ro_nil ?_
    refine wp_block ?_
    refine loop_at (σ := Int) (fr := fun g (s : Int) => upd (upd (upd (upd (g) 5 (.pointer (some a4))) 7 (.pointer (r7))) 8 (tSlc.enc (r13))) 9 (.int .i64 (s))) (s0 := ((0 : Int))) (upd_step (upd_step (upd_step (upd_step rfl rfl) rfl) rfl) rfl) h ?_
    rintro i_14 g w15 K16 h
    unfold F5_l1 at h
    refine wp_seq ?_
    refine wp_seq ?_
    refine wp_text [0, 1, 2, 3] rfl ?_
    refine rv 27 rfl rfl rfl (q_move (v := .int .i64 (i_14)) rfl rfl) ?_
    refine rv 28 rfl rfl rfl (q_move (v := tSlc.enc (r13)) rfl rfl) ?_
    refine rv 29 rfl rfl rfl (q_len (s := r13) rfl Tryz.underlying50 rfl) ?_
    refine rv 30 rfl rfl rfl (q_lss (a := i_14) (b := (r13.len : Int)) rfl rfl rfl) ?_
    refine ro_nil ?_
    refine wp_if (b := (decide (i_14 < (r13.len : Int)))) rfl h (fun hb87 h => ?_) (fun hb87 h => ?_)
    · refine wp_skip ?_
      refine wp_seq ?_
      refine wp_block ?_
      refine wp_seq ?_
      refine wp_text [0, 1, 2, 3, 4, 5] rfl ?_
      refine rv 33 rfl rfl rfl (q_move (v := tSlc.enc (r13)) rfl rfl) ?_
      refine rv 34 rfl rfl rfl (q_move (v := .int .i64 (i_14)) rfl rfl) ?_
      obtain ⟨a17, ha17, h⟩ := h
      refine rv 35 rfl rfl rfl (q_indexAddr (s := r13) (k := .i64) (i := i_14) rfl Tryz.underlying50 ok55 rfl rfl ha17) ?_
      obtain ⟨x18, hx18, h⟩ := h
      refine rv 36 rfl rfl rfl (q_load (T := T54) (u := x18) (a := a17) rfl ok55 rfl hx18) ?_
      obtain ⟨a19, w20, ha19, hw20, h⟩ := nw_open h
      refine rv 10 rfl rfl rfl (q_alloc (u := Z54) rfl ok55 inf55 ha19 hw20) ?_
      obtain ⟨w21, hw21, hrw21, h⟩ := st_open h
      refine ro_skip (d := none) rfl (.free rfl) rfl (q_store (T := T54) (u := x18) (a := a19) rfl ok55 rfl rfl hrw21 hw21) ?_
      refine ro_nil ?_
      refine wp_seq ?_
      refine wp_text [0, 1, 2, 3, 4, 5, 6, 7, 8, 9] rfl ?_
      refine rv 38 rfl rfl rfl (q_move (v := .pointer (r7)) rfl rfl) ?_
      refine rv 39 rfl rfl rfl (q_fieldAddr (a := a19) (off := 0) rfl Tryz.underlying55 rfl rfl ok53 (by decide) rfl) ?_
      refine rv 40 rfl rfl rfl (q_fieldAddr (a := (a19.add 0)) (off := 0) rfl Tryz.underlying53 rfl rfl ok3 (by decide) rfl) ?_
      obtain ⟨x22, hx22, h⟩ := h
      refine rv 41 rfl rfl rfl (q_load (T := (tInt .i64)) (u := x22) (a := ((a19.add 0).add 0)) rfl ok3 rfl hx22) ?_
      refine ro_wp rfl (.free rfl) (wp_cl (d := (some 42)) rfl (q_call (k := 14) (l := [.pointer (r7), .int .i64 (x22)]) rfl ent14 rfl) h ?_)
      intro r24 w23 h
      refine rv 37 rfl rfl rfl (q_move (v := (tTup2 (tInt .i64) (tInt .i64)).enc (r24)) rfl rfl) ?_
      refine rv 43 rfl rfl rfl (q_extract (vs := #[.int .i64 (r24.1), .int .i64 (r24.2)]) (v := .int .i64 (r24.1)) rfl rfl rfl) ?_
      refine rv 44 rfl rfl rfl (q_extract (vs := #[.int .i64 (r24.1), .int .i64 (r24.2)]) (v := .int .i64 (r24.2)) rfl rfl rfl) ?_
      refine rv 11 rfl rfl rfl (q_assign (v := .int .i64 (r24.1)) rfl rfl) ?_
      refine rv 12 rfl rfl rfl (q_assign (v := .int .i64 (r24.2)) rfl rfl) ?_
      refine ro_nil ?_
      refine wp_seq ?_
      refine seq_join (σ := Bool) (J := fun (s : Bool) w => F5_j2 a4 r7 r13 i_14 a19 s w K16 R) (fr := fun g (s : Bool) => upd (upd (upd (upd (upd (upd (g) 5 (.pointer (some a4))) 7 (.pointer (r7))) 8 (tSlc.enc (r13))) 9 (.int .i64 (i_14))) 10 (.pointer (some a19))) 86 (.bool (s))) ?_ ?_
      · rintro t_25 g w26 h
        unfold F5_j2 at h
        refine wp_if (b := t_25) rfl h (fun hb53 h => ?_) (fun hb53 h => ?_)
        · refine wp_seq ?_
          refine wp_text [0] rfl ?_
          refine rv 6 rfl rfl rfl (q_assign (v := .bool (false)) rfl rfl) ?_
          refine ro_nil ?_
          refine wp_ret ?_
          exact ret_ok rfl (.cons (.tmp (v := .bool (false)) rfl) .nil) ⟨false, rfl, h⟩
        · refine wp_skip ?_
          refine wp_seq ?_
          refine wp_seq ?_
          refine wp_text [0] rfl ?_
          refine rv 13 rfl rfl rfl (q_assign (v := .int .i64 ((0 : Int))) rfl rfl) ?_
          refine ro_nil ?_
          refine wp_block ?_
          refine loop_at (σ := Int) (fr := fun g (s : Int) => upd (upd (upd (upd (upd (upd (g) 5 (.pointer (some a4))) 7 (.pointer (r7))) 8 (tSlc.enc (r13))) 9 (.int .i64 (i_14))) 10 (.pointer (some a19))) 13 (.int .i64 (s))) (s0 := ((0 : Int))) (upd_step (upd_step (upd_step (upd_step (upd_step (upd_step rfl rfl) rfl) rfl) rfl) rfl) rfl) h ?_
          rintro k_27 g w28 K29 h
          unfold F5_l3 at h
          refine wp_seq ?_
          refine wp_seq ?_
          refine wp_text [0, 1, 2] rfl ?_
          refine rv 87 rfl rfl rfl (q_move (v := .int .i64 (k_27)) rfl rfl) ?_
          refine rv 88 rfl rfl rfl (q_move (v := .int .i64 (i_14)) rfl rfl) ?_
          refine rv 89 rfl rfl rfl (q_lss (a := k_27) (b := i_14) rfl rfl rfl) ?_
          refine ro_nil ?_
          refine wp_if (b := (decide (k_27 < i_14))) rfl h (fun hb52 h => ?_) (fun hb52 h => ?_)
          · refine wp_skip ?_
            refine wp_seq ?_
            refine wp_block ?_
            refine wp_seq ?_
            obtain ⟨w30, hw30, h⟩ := dr_open h
            refine wp_drawn 10 mixed rfl (by kernel_rfl) (by intro c a d v w h; cases d <;> exact h) hw30 (fun hD => ?_)
            refine rp 0 92 hD rfl rfl rfl (fun _ => q_move (v := tSlc.enc (r13)) rfl rfl) ?_
            refine rp 1 93 hD rfl rfl rfl (fun _ => q_move (v := .int .i64 (k_27)) rfl rfl) ?_
            obtain ⟨a31, ha31, h⟩ := h
            refine rp 2 94 hD rfl rfl rfl (fun _ => q_indexAddr (s := r13) (k := .i64) (i := k_27) rfl Tryz.underlying50 ok55 rfl rfl ha31) ?_
            refine rp 3 95 hD rfl rfl rfl (fun _ => q_fieldAddr (a := a31) (off := 0) rfl Tryz.underlying55 rfl rfl ok53 (by decide) rfl) ?_
            refine rp 4 96 hD rfl rfl rfl (fun _ => q_fieldAddr (a := (a31.add 0)) (off := 1) rfl Tryz.underlying53 rfl rfl ok3 (by decide) rfl) ?_
            refine rp 6 98 hD rfl rfl rfl (fun _ => q_fieldAddr (a := a19) (off := 0) rfl Tryz.underlying55 rfl rfl ok53 (by decide) rfl) ?_
            refine rp 7 99 hD rfl rfl rfl (fun _ => q_fieldAddr (a := (a19.add 0)) (off := 1) rfl Tryz.underlying53 rfl rfl ok3 (by decide) rfl) ?_
            obtain ⟨x32, hx32, h⟩ := h
            refine rd_read (i := 5) (d := (some 97)) (fun W => (RdAt (tInt .i64) ((a31.add 0).add 1) W) x32) hD (by kernel_rfl) (by kernel_rfl) rfl (.free rfl) rfl (fun W hr => q_load (T := (tInt .i64)) (u := x32) (a := ((a31.add 0).add 1)) rfl ok3 rfl hr) hx32 ?_
            obtain ⟨x33, hx33, h⟩ := h
            refine rd_read (i := 8) (d := (some 100)) (fun W => (RdAt (tInt .i64) ((a19.add 0).add 1) W) x33) hD (by kernel_rfl) (by kernel_rfl) rfl (.free rfl) rfl (fun W hr => q_load (T := (tInt .i64)) (u := x33) (a := ((a19.add 0).add 1)) rfl ok3 rfl hr) hx33 ?_
            refine rp 9 101 hD rfl rfl rfl (fun _ => q_eql (a := x32) (b := x33) rfl rfl rfl) ?_
            refine rd_nil (by kernel_rfl) ?_
            refine wp_if (b := (x32 == x33)) rfl h (fun hb34 h => ?_) (fun hb34 h => ?_)
            · refine wp_seq ?_
              refine wp_text [0] rfl ?_
              refine rv 6 rfl rfl rfl (q_assign (v := .bool (false)) rfl rfl) ?_
              refine ro_nil ?_
              refine wp_ret ?_
              exact ret_ok rfl (.cons (.tmp (v := .bool (false)) rfl) .nil) ⟨false, rfl, h⟩
            · refine wp_skip ?_
              refine wp_text [0, 1, 2] rfl ?_
              refine rv 90 rfl rfl rfl (q_move (v := .int .i64 (k_27)) rfl rfl) ?_
              refine rv 91 rfl rfl rfl (q_add (a := k_27) (b := (1 : Int)) rfl rfl rfl) ?_
              refine rv 13 rfl rfl rfl (q_assign (v := .int .i64 ((IntKind.i64.wrap (k_27 + (1 : Int))))) rfl rfl) ?_
              refine ro_nil ?_
              exact ⟨((IntKind.i64.wrap (k_27 + (1 : Int)))), _, arr (upd_step (upd_step (upd_step (upd_step (upd_step (upd_step rfl rfl) rfl) rfl) rfl) rfl) rfl), h⟩
          · refine wp_exit ?_
            refine wp_seq ?_
            refine wp_seq ?_
            refine wp_text [0, 1, 2, 3, 4] rfl ?_
            refine rv 102 rfl rfl rfl (q_move (v := .pointer (r7)) rfl rfl) ?_
            refine rv 103 rfl rfl rfl (q_fieldAddr (a := a19) (off := 4) rfl Tryz.underlying55 rfl rfl ok2 (by decide) rfl) ?_
            obtain ⟨x35, hx35, h⟩ := h
            refine rv 104 rfl rfl rfl (q_load (T := (tInt .i64)) (u := x35) (a := (a19.add 4)) rfl ok2 rfl hx35) ?_
            refine ro_wp rfl (.free rfl) (wp_cl (d := (some 105)) rfl (q_call (k := 19) (l := [.pointer (r7), .int .i64 (x35)]) rfl ent19 rfl) h ?_)
            intro r37 w36 h
            refine rv 106 rfl rfl rfl (q_neq (a := r37) (b := (160 : Int)) rfl rfl rfl) ?_
            refine ro_nil ?_
            refine wp_if (b := (r37 != (160 : Int))) rfl h (fun hb51 h => ?_) (fun hb51 h => ?_)
            · refine wp_seq ?_
              refine wp_text [0] rfl ?_
              refine rv 6 rfl rfl rfl (q_assign (v := .bool (false)) rfl rfl) ?_
              refine ro_nil ?_
              refine wp_ret ?_
              exact ret_ok rfl (.cons (.tmp (v := .bool (false)) rfl) .nil) ⟨false, rfl, h⟩
            · refine wp_skip ?_
              refine wp_seq ?_
              refine wp_text [0, 1, 2, 3] rfl ?_
              obtain ⟨x38, hx38, h⟩ := h
              refine rv 107 rfl rfl rfl (q_load (T := T41) (u := x38) (a := a4) rfl ok42 rfl hx38) ?_
              refine ro_wp rfl (.free rfl) (wp_cl (d := (some 108)) rfl (q_call (k := 20) (l := [T41.enc (x38)]) rfl ent20 rfl) h ?_)
              intro r40 w39 h
              obtain ⟨a41, w42, ha41, hw42, h⟩ := nw_open h
              refine rv 14 rfl rfl rfl (q_alloc (u := Z52) rfl ok53 inf53 ha41 hw42) ?_
              obtain ⟨w43, hw43, hrw43, h⟩ := st_open h
              refine ro_skip (d := none) rfl (.free rfl) rfl (q_store (T := T52) (u := r40) (a := a41) rfl ok53 rfl rfl hrw43 hw43) ?_
              refine ro_nil ?_
              refine wp_seq ?_
              refine wp_text [0, 1, 2, 3, 4] rfl ?_
              refine rv 109 rfl rfl rfl (q_fieldAddr (a := a19) (off := 0) rfl Tryz.underlying55 rfl rfl ok53 (by decide) rfl) ?_
              refine rv 110 rfl rfl rfl (q_fieldAddr (a := (a19.add 0)) (off := 1) rfl Tryz.underlying53 rfl rfl ok3 (by decide) rfl) ?_
              obtain ⟨x44, hx44, h⟩ := h
              refine rv 111 rfl rfl rfl (q_load (T := (tInt .i64)) (u := x44) (a := ((a19.add 0).add 1)) rfl ok3 rfl hx44) ?_
              refine rv 112 rfl rfl rfl (q_fieldAddr (a := a41) (off := 1) rfl Tryz.underlying53 rfl rfl ok3 (by decide) rfl) ?_
              obtain ⟨w45, hw45, hrw45, h⟩ := st_open h
              refine ro_skip (d := none) rfl (.free rfl) rfl (q_store (T := (tInt .i64)) (u := x44) (a := (a41.add 1)) rfl ok3 rfl rfl hrw45 hw45) ?_
              refine ro_nil ?_
              refine wp_seq ?_
              refine wp_text [0, 1, 2, 3, 4, 5] rfl ?_
              refine rv 113 rfl rfl rfl (q_move (v := .pointer (r7)) rfl rfl) ?_
              refine rv 114 rfl rfl rfl (q_fieldAddr (a := a4) (off := 3) rfl Tryz.underlying42 rfl rfl ok2 (by decide) rfl) ?_
              obtain ⟨x46, hx46, h⟩ := h
              refine rv 115 rfl rfl rfl (q_load (T := (tInt .i64)) (u := x46) (a := (a4.add 3)) rfl ok2 rfl hx46) ?_
              obtain ⟨x47, hx47, h⟩ := h
              refine rv 116 rfl rfl rfl (q_load (T := T52) (u := x47) (a := a41) rfl ok53 rfl hx47) ?_
              refine ro_wp rfl (.free rfl) (wp_cl (d := (some 117)) rfl (q_call (k := 21) (l := [.pointer (r7), .int .i64 (x46), T52.enc (x47)]) rfl ent21 rfl) h ?_)
              intro r49 w48 h
              refine rv 118 rfl rfl rfl (q_eql (a := r49) (b := (0 : Int)) rfl rfl rfl) ?_
              refine ro_nil ?_
              refine wp_if (b := (r49 == (0 : Int))) rfl h (fun hb50 h => ?_) (fun hb50 h => ?_)
              · refine wp_seq ?_
                refine wp_text [0] rfl ?_
                refine rv 6 rfl rfl rfl (q_assign (v := .bool (false)) rfl rfl) ?_
                refine ro_nil ?_
                refine wp_ret ?_
                exact ret_ok rfl (.cons (.tmp (v := .bool (false)) rfl) .nil) ⟨false, rfl, h⟩
              · refine wp_skip ?_
                refine wp_text [0, 1, 2] rfl ?_
                refine rv 31 rfl rfl rfl (q_move (v := .int .i64 (i_14)) rfl rfl) ?_
                refine rv 32 rfl rfl rfl (q_add (a := i_14) (b := (1 : Int)) rfl rfl rfl) ?_
                refine rv 9 rfl rfl rfl (q_assign (v := .int .i64 ((IntKind.i64.wrap (i_14 + (1 : Int))))) rfl rfl) ?_
                refine ro_nil ?_
                exact ⟨((IntKind.i64.wrap (i_14 + (1 : Int)))), _, arr (upd_step (upd_step (upd_step (upd_step rfl rfl) rfl) rfl) rfl), h⟩
      · obtain ⟨w54, hw54, h⟩ := dr_open h
        refine wp_drawn 42 mixed rfl (by kernel_rfl) (by intro c a d v w h; cases d <;> exact h) hw54 (fun hD => ?_)
        refine rp 0 45 hD rfl rfl rfl (fun _ => q_move (v := .int .i64 (r24.1)) rfl rfl) ?_
        refine rp 1 46 hD rfl rfl rfl (fun _ => q_neq (a := r24.1) (b := (1 : Int)) rfl rfl rfl) ?_
        refine rp 2 47 hD rfl rfl rfl (fun _ => q_move (v := .bool ((r24.1 != (1 : Int)))) rfl rfl) ?_
        refine rd_gpure (i := 3) (g := (!(r24.1 != (1 : Int)))) (d := (some 48)) hD (by kernel_rfl) (by kernel_rfl) rfl (.no 2 47 true (r24.1 != (1 : Int)) rfl rfl rfl rfl) rfl (fun hg _ => q_move (v := .int .i64 (r24.2)) rfl rfl) ?_
        refine rd_gpure (i := 4) (g := (!(r24.1 != (1 : Int)))) (d := (some 49)) hD (by kernel_rfl) (by kernel_rfl) rfl (.no 2 47 true (r24.1 != (1 : Int)) rfl rfl rfl rfl) rfl (fun hg _ => q_fieldAddr (a := a19) (off := 4) rfl Tryz.underlying55 rfl rfl ok2 (by decide) rfl) ?_
        obtain ⟨x55, hx55, h⟩ := h
        refine rd_gread (i := 5) (g := (!(r24.1 != (1 : Int)))) (d := (some 50)) (fun W => (RdAt (tInt .i64) (a19.add 4) W) x55) hD (by kernel_rfl) (by kernel_rfl) rfl (.no 2 47 true (r24.1 != (1 : Int)) rfl rfl rfl rfl) rfl (fun hg W hr => q_load (T := (tInt .i64)) (u := x55) (a := (a19.add 4)) rfl ok2 (gvb_yes hg) hr) hx55 ?_
        refine rd_gpure (i := 6) (g := (!(r24.1 != (1 : Int)))) (d := (some 51)) hD (by kernel_rfl) (by kernel_rfl) rfl (.no 2 47 true (r24.1 != (1 : Int)) rfl rfl rfl rfl) rfl (fun hg _ => q_neq (k := .i64) (a := r24.2) (b := x55) rfl (gvb_yes hg) (gvb_yes hg)) ?_
        refine rp 7 52 hD rfl rfl rfl (fun _ => q_pickGF (a := (r24.1 != (1 : Int))) (c := (r24.2 != x55)) rfl rfl rfl rfl) ?_
        refine rp 8 53 hD rfl rfl rfl (fun _ => q_move (v := .bool (((r24.1 != (1 : Int)) || (r24.2 != x55)))) rfl rfl) ?_
        refine ro_if (b := ((r24.1 != (1 : Int)) || (r24.2 != x55))) h (fun hb56 h => ?_) (fun hb56 h => ?_)
        · refine rd_bar (i := 9) (d := (some 54)) hD (by kernel_rfl) (by kernel_rfl) rfl (.by_ 8 false 53 ((r24.1 != (1 : Int)) || (r24.2 != x55)) rfl rfl rfl hb56) rfl ?_
          refine rd_bar (i := 11) (d := (some 56)) hD (by kernel_rfl) (by kernel_rfl) rfl (.by_ 8 false 53 ((r24.1 != (1 : Int)) || (r24.2 != x55)) rfl rfl rfl hb56) rfl ?_
          refine rd_bar (i := 12) (d := (some 57)) hD (by kernel_rfl) (by kernel_rfl) rfl (.by_ 8 false 53 ((r24.1 != (1 : Int)) || (r24.2 != x55)) rfl rfl rfl hb56) rfl ?_
          refine rd_bar (i := 13) (d := (some 58)) hD (by kernel_rfl) (by kernel_rfl) rfl (.by_ 8 false 53 ((r24.1 != (1 : Int)) || (r24.2 != x55)) rfl rfl rfl hb56) rfl ?_
          refine rd_bar (i := 10) (d := (some 55)) hD (by kernel_rfl) (by kernel_rfl) rfl (.by_ 8 false 53 ((r24.1 != (1 : Int)) || (r24.2 != x55)) rfl rfl rfl hb56) rfl ?_
          refine rd_bar (i := 14) (d := (some 59)) hD (by kernel_rfl) (by kernel_rfl) rfl (.by_ 8 false 53 ((r24.1 != (1 : Int)) || (r24.2 != x55)) rfl rfl rfl hb56) rfl ?_
          refine rd_one (i := 15) (by kernel_rfl) ?_
          refine po_bar (d := (some 60)) rfl (.by_ 8 false 53 ((r24.1 != (1 : Int)) || (r24.2 != x55)) rfl rfl rfl hb56) rfl ⟨fun _ _ _ h => h, ?_⟩
          refine rd_bar (i := 16) (d := (some 61)) hD (by kernel_rfl) (by kernel_rfl) rfl (.by_ 8 false 53 ((r24.1 != (1 : Int)) || (r24.2 != x55)) rfl rfl rfl hb56) rfl ?_
          refine rp 17 62 hD rfl rfl rfl (fun _ => q_pickT (v := .bool (true)) (b := ((r24.1 != (1 : Int)) || (r24.2 != x55))) rfl rfl hb56 rfl) ?_
          refine rp 18 63 hD rfl rfl rfl (fun _ => q_move (v := .bool (true)) rfl rfl) ?_
          refine ro_if (b := true) h (fun hb57 h => ?_) (fun hb57 h => ?_)
          · refine rd_bar (i := 19) (d := (some 64)) hD (by kernel_rfl) (by kernel_rfl) rfl (.by_ 18 false 63 true rfl rfl rfl hb57) rfl ?_
            refine rd_bar (i := 21) (d := (some 66)) hD (by kernel_rfl) (by kernel_rfl) rfl (.by_ 18 false 63 true rfl rfl rfl hb57) rfl ?_
            refine rd_bar (i := 20) (d := (some 65)) hD (by kernel_rfl) (by kernel_rfl) rfl (.by_ 18 false 63 true rfl rfl rfl hb57) rfl ?_
            refine rd_one (i := 22) (by kernel_rfl) ?_
            refine po_bar (d := (some 67)) rfl (.by_ 18 false 63 true rfl rfl rfl hb57) rfl ⟨fun _ _ _ h => h, ?_⟩
            refine rd_bar (i := 23) (d := (some 68)) hD (by kernel_rfl) (by kernel_rfl) rfl (.by_ 18 false 63 true rfl rfl rfl hb57) rfl ?_
            refine rp 24 69 hD rfl rfl rfl (fun _ => q_pickT (v := .bool (true)) (b := true) rfl rfl hb57 rfl) ?_
            refine rp 25 70 hD rfl rfl rfl (fun _ => q_move (v := .bool (true)) rfl rfl) ?_
            refine rd_bar (i := 26) (d := (some 71)) hD (by kernel_rfl) (by kernel_rfl) rfl (.by_ 25 false 70 true rfl rfl rfl hb57) rfl ?_
            refine rd_bar (i := 27) (d := (some 72)) hD (by kernel_rfl) (by kernel_rfl) rfl (.by_ 25 false 70 true rfl rfl rfl hb57) rfl ?_
            refine rd_bar (i := 28) (d := (some 73)) hD (by kernel_rfl) (by kernel_rfl) rfl (.by_ 25 false 70 true rfl rfl rfl hb57) rfl ?_
            refine rd_bar (i := 29) (d := (some 74)) hD (by kernel_rfl) (by kernel_rfl) rfl (.undef 28 true 73 rfl rfl rfl) rfl ?_
            refine rd_bar (i := 30) (d := (some 75)) hD (by kernel_rfl) (by kernel_rfl) rfl (.undef 28 true 73 rfl rfl rfl) rfl ?_
            refine rd_bar (i := 31) (d := (some 76)) hD (by kernel_rfl) (by kernel_rfl) rfl (.undef 28 true 73 rfl rfl rfl) rfl ?_
            refine rd_bar (i := 32) (d := (some 77)) hD (by kernel_rfl) (by kernel_rfl) rfl (.undef 28 true 73 rfl rfl rfl) rfl ?_
            refine rd_bar (i := 33) (d := (some 78)) hD (by kernel_rfl) (by kernel_rfl) rfl (.undef 28 true 73 rfl rfl rfl) rfl ?_
            refine rd_bar (i := 34) (d := (some 79)) hD (by kernel_rfl) (by kernel_rfl) rfl (.undef 28 true 73 rfl rfl rfl) rfl ?_
            refine rd_bar (i := 36) (d := (some 81)) hD (by kernel_rfl) (by kernel_rfl) rfl (.undef 28 true 73 rfl rfl rfl) rfl ?_
            refine rd_bar (i := 37) (d := (some 82)) hD (by kernel_rfl) (by kernel_rfl) rfl (.undef 28 true 73 rfl rfl rfl) rfl ?_
            refine rd_bar (i := 35) (d := (some 80)) hD (by kernel_rfl) (by kernel_rfl) rfl (.undef 28 true 73 rfl rfl rfl) rfl ?_
            refine rd_bar (i := 38) (d := (some 83)) hD (by kernel_rfl) (by kernel_rfl) rfl (.undef 28 true 73 rfl rfl rfl) rfl ?_
            refine rd_bar (i := 39) (d := (some 84)) hD (by kernel_rfl) (by kernel_rfl) rfl (.undef 28 true 73 rfl rfl rfl) rfl ?_
            refine rd_bar (i := 40) (d := (some 85)) hD (by kernel_rfl) (by kernel_rfl) rfl (.by_ 25 false 70 true rfl rfl rfl hb57) rfl ?_
            refine rp 41 86 hD rfl rfl rfl (fun _ => q_pickT (v := .bool (true)) (b := true) rfl rfl hb57 rfl) ?_
            refine rd_nil (by kernel_rfl) ?_
            exact ⟨(true), _, arr (upd_step (upd_step (upd_step (upd_step (upd_step (upd_step rfl rfl) rfl) rfl) rfl) rfl) rfl), h⟩
          · refine rd_pure (i := 19) (d := (some 64)) hD (by kernel_rfl) (by kernel_rfl) rfl (.by_ 18 false 63 true rfl rfl rfl hb57) rfl (fun _ => q_fieldAddr (a := a19) (off := 4) rfl Tryz.underlying55 rfl rfl ok2 (by decide) rfl) ?_
            refine rd_pure (i := 21) (d := (some 66)) hD (by kernel_rfl) (by kernel_rfl) rfl (.by_ 18 false 63 true rfl rfl rfl hb57) rfl (fun _ => q_move (v := .pointer (r7)) rfl rfl) ?_
            obtain ⟨x58, hx58, h⟩ := h
            refine rd_read (i := 20) (d := (some 65)) (fun W => (RdAt (tInt .i64) (a19.add 4) W) x58) hD (by kernel_rfl) (by kernel_rfl) rfl (.by_ 18 false 63 true rfl rfl rfl hb57) rfl (fun W hr => q_load (T := (tInt .i64)) (u := x58) (a := (a19.add 4)) rfl ok2 rfl hr) hx58 ?_
            refine rd_one (i := 22) (by kernel_rfl) ?_
            refine po_wp rfl (.by_ 18 false 63 true rfl rfl rfl hb57) (wp_cl (d := (some 67)) rfl (q_call (k := 18) (l := [.pointer (r7)]) rfl ent18 rfl) h ?_)
            intro r60 w59 h
            obtain ⟨hk61, h⟩ := h
            obtain ⟨hk62, h⟩ := h
            refine ⟨(hk_keep (fun _ => hk62) (hk_keep (fun _ => hk61) hk_nil)), ?_⟩
            refine rd_pure (i := 23) (d := (some 68)) hD (by kernel_rfl) (by kernel_rfl) rfl (.by_ 18 false 63 true rfl rfl rfl hb57) rfl (fun _ => q_gtr (a := x58) (b := r60) rfl rfl rfl) ?_
            refine rp 24 69 hD rfl rfl rfl (fun _ => q_pickF (v := .bool ((decide (x58 > r60)))) (b := true) rfl rfl hb57 rfl) ?_
            refine rp 25 70 hD rfl rfl rfl (fun _ => q_move (v := .bool ((decide (x58 > r60)))) rfl rfl) ?_
            refine rd_gpure (i := 26) (g := (!(decide (x58 > r60)))) (d := (some 71)) hD (by kernel_rfl) (by kernel_rfl) rfl (.no 25 70 true (decide (x58 > r60)) rfl rfl rfl rfl) rfl (fun hg _ => q_move (v := .int .i64 (i_14)) rfl rfl) ?_
            refine rd_gpure (i := 27) (g := (!(decide (x58 > r60)))) (d := (some 72)) hD (by kernel_rfl) (by kernel_rfl) rfl (.no 25 70 true (decide (x58 > r60)) rfl rfl rfl rfl) rfl (fun hg _ => q_gtr (k := .i64) (a := i_14) (b := (0 : Int)) rfl (gvb_yes hg) rfl) ?_
            refine rd_gpure (i := 28) (g := (!(decide (x58 > r60)))) (d := (some 73)) hD (by kernel_rfl) (by kernel_rfl) rfl (.no 25 70 true (decide (x58 > r60)) rfl rfl rfl rfl) rfl (fun hg _ => q_move (v := .bool ((decide (i_14 > (0 : Int))))) rfl (gvb_yes hg)) ?_
            refine rd_gpure (i := 29) (g := ((!(decide (x58 > r60))) && (decide (i_14 > (0 : Int))))) (d := (some 74)) hD (by kernel_rfl) (by kernel_rfl) rfl (.yes 28 73 (!(decide (x58 > r60))) (decide (i_14 > (0 : Int))) rfl rfl rfl rfl) rfl (fun hg _ => q_move (v := tSlc.enc (r13)) rfl rfl) ?_
            refine rd_gpure (i := 30) (g := ((!(decide (x58 > r60))) && (decide (i_14 > (0 : Int))))) (d := (some 75)) hD (by kernel_rfl) (by kernel_rfl) rfl (.yes 28 73 (!(decide (x58 > r60))) (decide (i_14 > (0 : Int))) rfl rfl rfl rfl) rfl (fun hg _ => q_move (v := .int .i64 (i_14)) rfl rfl) ?_
            refine rd_gpure (i := 31) (g := ((!(decide (x58 > r60))) && (decide (i_14 > (0 : Int))))) (d := (some 76)) hD (by kernel_rfl) (by kernel_rfl) rfl (.yes 28 73 (!(decide (x58 > r60))) (decide (i_14 > (0 : Int))) rfl rfl rfl rfl) rfl (fun hg _ => q_sub (k := .i64) (a := i_14) (b := (1 : Int)) rfl (gvb_yes hg) rfl) ?_
            obtain ⟨a63, ha63, h⟩ := h
            refine rd_gpure (i := 32) (g := ((!(decide (x58 > r60))) && (decide (i_14 > (0 : Int))))) (d := (some 77)) hD (by kernel_rfl) (by kernel_rfl) rfl (.yes 28 73 (!(decide (x58 > r60))) (decide (i_14 > (0 : Int))) rfl rfl rfl rfl) rfl (fun hg _ => q_indexAddr (s := r13) (k := .i64) (i := (IntKind.i64.wrap (i_14 - (1 : Int)))) rfl Tryz.underlying50 ok55 (gvb_yes hg) (gvb_yes hg) (ha63 hg)) ?_
            refine rd_gpure (i := 33) (g := ((!(decide (x58 > r60))) && (decide (i_14 > (0 : Int))))) (d := (some 78)) hD (by kernel_rfl) (by kernel_rfl) rfl (.yes 28 73 (!(decide (x58 > r60))) (decide (i_14 > (0 : Int))) rfl rfl rfl rfl) rfl (fun hg _ => q_fieldAddr (a := a63) (off := 0) rfl Tryz.underlying55 rfl rfl ok53 (by decide) (gvb_yes hg)) ?_
            refine rd_gpure (i := 34) (g := ((!(decide (x58 > r60))) && (decide (i_14 > (0 : Int))))) (d := (some 79)) hD (by kernel_rfl) (by kernel_rfl) rfl (.yes 28 73 (!(decide (x58 > r60))) (decide (i_14 > (0 : Int))) rfl rfl rfl rfl) rfl (fun hg _ => q_fieldAddr (a := (a63.add 0)) (off := 0) rfl Tryz.underlying53 rfl rfl ok3 (by decide) (gvb_yes hg)) ?_
            refine rd_gpure (i := 36) (g := ((!(decide (x58 > r60))) && (decide (i_14 > (0 : Int))))) (d := (some 81)) hD (by kernel_rfl) (by kernel_rfl) rfl (.yes 28 73 (!(decide (x58 > r60))) (decide (i_14 > (0 : Int))) rfl rfl rfl rfl) rfl (fun hg _ => q_fieldAddr (a := a19) (off := 0) rfl Tryz.underlying55 rfl rfl ok53 (by decide) rfl) ?_
            refine rd_gpure (i := 37) (g := ((!(decide (x58 > r60))) && (decide (i_14 > (0 : Int))))) (d := (some 82)) hD (by kernel_rfl) (by kernel_rfl) rfl (.yes 28 73 (!(decide (x58 > r60))) (decide (i_14 > (0 : Int))) rfl rfl rfl rfl) rfl (fun hg _ => q_fieldAddr (a := (a19.add 0)) (off := 0) rfl Tryz.underlying53 rfl rfl ok3 (by decide) (gvb_yes hg)) ?_
            obtain ⟨x64, hx64, h⟩ := h
            refine rd_gread (i := 35) (g := ((!(decide (x58 > r60))) && (decide (i_14 > (0 : Int))))) (d := (some 80)) (fun W => (RdAt (tInt .i64) ((a63.add 0).add 0) W) x64) hD (by kernel_rfl) (by kernel_rfl) rfl (.yes 28 73 (!(decide (x58 > r60))) (decide (i_14 > (0 : Int))) rfl rfl rfl rfl) rfl (fun hg W hr => q_load (T := (tInt .i64)) (u := x64) (a := ((a63.add 0).add 0)) rfl ok3 (gvb_yes hg) hr) hx64 ?_
            obtain ⟨x65, hx65, h⟩ := h
            refine rd_gread (i := 38) (g := ((!(decide (x58 > r60))) && (decide (i_14 > (0 : Int))))) (d := (some 83)) (fun W => (RdAt (tInt .i64) ((a19.add 0).add 0) W) x65) hD (by kernel_rfl) (by kernel_rfl) rfl (.yes 28 73 (!(decide (x58 > r60))) (decide (i_14 > (0 : Int))) rfl rfl rfl rfl) rfl (fun hg W hr => q_load (T := (tInt .i64)) (u := x65) (a := ((a19.add 0).add 0)) rfl ok3 (gvb_yes hg) hr) hx65 ?_
            refine rd_gpure (i := 39) (g := ((!(decide (x58 > r60))) && (decide (i_14 > (0 : Int))))) (d := (some 84)) hD (by kernel_rfl) (by kernel_rfl) rfl (.yes 28 73 (!(decide (x58 > r60))) (decide (i_14 > (0 : Int))) rfl rfl rfl rfl) rfl (fun hg _ => q_geq (k := .i64) (a := x64) (b := x65) rfl (gvb_yes hg) (gvb_yes hg)) ?_
            refine rd_gpure (i := 40) (g := (!(decide (x58 > r60)))) (d := (some 85)) hD (by kernel_rfl) (by kernel_rfl) rfl (.no 25 70 true (decide (x58 > r60)) rfl rfl rfl rfl) rfl (fun hg _ => q_pickNT (g0 := (!(decide (x58 > r60)))) (a := (decide (i_14 > (0 : Int)))) (b := (decide (x64 ≥ x65))) hg rfl rfl rfl rfl) ?_
            refine rp 41 86 hD rfl rfl rfl (fun _ => q_pickGF (a := (decide (x58 > r60))) (c := ((decide (i_14 > (0 : Int))) && (decide (x64 ≥ x65)))) rfl rfl rfl rfl) ?_
            refine rd_nil (by kernel_rfl) ?_
            exact ⟨(((decide (x58 > r60)) || ((decide (i_14 > (0 : Int))) && (decide (x64 ≥ x65))))), _, arr (upd_step (upd_step (upd_step (upd_step (upd_step (upd_step rfl rfl) rfl) rfl) rfl) rfl) rfl), h⟩
        · refine rd_pure (i := 9) (d := (some 54)) hD (by kernel_rfl) (by kernel_rfl) rfl (.by_ 8 false 53 ((r24.1 != (1 : Int)) || (r24.2 != x55)) rfl rfl rfl hb56) rfl (fun _ => q_fieldAddr (a := a19) (off := 4) rfl Tryz.underlying55 rfl rfl ok2 (by decide) rfl) ?_
          refine rd_pure (i := 11) (d := (some 56)) hD (by kernel_rfl) (by kernel_rfl) rfl (.by_ 8 false 53 ((r24.1 != (1 : Int)) || (r24.2 != x55)) rfl rfl rfl hb56) rfl (fun _ => q_move (v := .pointer (r7)) rfl rfl) ?_
          obtain ⟨a66, ha66, h⟩ := h
          refine rd_pure (i := 12) (d := (some 57)) hD (by kernel_rfl) (by kernel_rfl) rfl (.by_ 8 false 53 ((r24.1 != (1 : Int)) || (r24.2 != x55)) rfl rfl rfl hb56) rfl (fun _ => q_nilCheck (a := a66) rfl (congrArg Value.pointer ha66)) ?_
          refine rd_pure (i := 13) (d := (some 58)) hD (by kernel_rfl) (by kernel_rfl) rfl (.by_ 8 false 53 ((r24.1 != (1 : Int)) || (r24.2 != x55)) rfl rfl rfl hb56) rfl (fun _ => q_fieldAddr (a := a66) (off := 0) rfl Tryz.underlying35 rfl rfl ok30 (by decide) rfl) ?_
          obtain ⟨x67, hx67, h⟩ := h
          refine rd_read (i := 10) (d := (some 55)) (fun W => (RdAt (tInt .i64) (a19.add 4) W) x67) hD (by kernel_rfl) (by kernel_rfl) rfl (.by_ 8 false 53 ((r24.1 != (1 : Int)) || (r24.2 != x55)) rfl rfl rfl hb56) rfl (fun W hr => q_load (T := (tInt .i64)) (u := x67) (a := (a19.add 4)) rfl ok2 rfl hr) hx67 ?_
          obtain ⟨x68, hx68, h⟩ := h
          refine rd_read (i := 14) (d := (some 59)) (fun W => (RdAt T29 (a66.add 0) W) x68) hD (by kernel_rfl) (by kernel_rfl) rfl (.by_ 8 false 53 ((r24.1 != (1 : Int)) || (r24.2 != x55)) rfl rfl rfl hb56) rfl (fun W hr => q_load (T := T29) (u := x68) (a := (a66.add 0)) rfl ok30 rfl hr) hx68 ?_
          refine rd_one (i := 15) (by kernel_rfl) ?_
          refine po_wp rfl (.by_ 8 false 53 ((r24.1 != (1 : Int)) || (r24.2 != x55)) rfl rfl rfl hb56) (wp_cl (d := (some 60)) rfl (q_call (k := 9) (l := [T29.enc (x68)]) rfl ent9 rfl) h ?_)
          intro r70 w69 h
          obtain ⟨hk71, h⟩ := h
          obtain ⟨hk72, h⟩ := h
          refine ⟨(hk_wait (by kernel_rfl) (hk_keep (fun _ => hk72) (hk_keep (fun _ => hk71) hk_nil))), ?_⟩
          refine rd_pure (i := 16) (d := (some 61)) hD (by kernel_rfl) (by kernel_rfl) rfl (.by_ 8 false 53 ((r24.1 != (1 : Int)) || (r24.2 != x55)) rfl rfl rfl hb56) rfl (fun _ => q_leq (a := x67) (b := r70) rfl rfl rfl) ?_
          refine rp 17 62 hD rfl rfl rfl (fun _ => q_pickF (v := .bool ((decide (x67 ≤ r70)))) (b := ((r24.1 != (1 : Int)) || (r24.2 != x55))) rfl rfl hb56 rfl) ?_
          refine rp 18 63 hD rfl rfl rfl (fun _ => q_move (v := .bool ((decide (x67 ≤ r70)))) rfl rfl) ?_
          refine ro_if (b := (decide (x67 ≤ r70))) h (fun hb73 h => ?_) (fun hb73 h => ?_)
          · refine rd_bar (i := 19) (d := (some 64)) hD (by kernel_rfl) (by kernel_rfl) rfl (.by_ 18 false 63 (decide (x67 ≤ r70)) rfl rfl rfl hb73) rfl ?_
            refine rd_bar (i := 21) (d := (some 66)) hD (by kernel_rfl) (by kernel_rfl) rfl (.by_ 18 false 63 (decide (x67 ≤ r70)) rfl rfl rfl hb73) rfl ?_
            refine rd_bar (i := 20) (d := (some 65)) hD (by kernel_rfl) (by kernel_rfl) rfl (.by_ 18 false 63 (decide (x67 ≤ r70)) rfl rfl rfl hb73) rfl ?_
            refine rd_one (i := 22) (by kernel_rfl) ?_
            refine po_bar (d := (some 67)) rfl (.by_ 18 false 63 (decide (x67 ≤ r70)) rfl rfl rfl hb73) rfl ⟨fun _ _ _ h => h, ?_⟩
            refine rd_bar (i := 23) (d := (some 68)) hD (by kernel_rfl) (by kernel_rfl) rfl (.by_ 18 false 63 (decide (x67 ≤ r70)) rfl rfl rfl hb73) rfl ?_
            refine rp 24 69 hD rfl rfl rfl (fun _ => q_pickT (v := .bool (true)) (b := (decide (x67 ≤ r70))) rfl rfl hb73 rfl) ?_
            refine rp 25 70 hD rfl rfl rfl (fun _ => q_move (v := .bool (true)) rfl rfl) ?_
            refine rd_gpure (i := 26) (g := (!true)) (d := (some 71)) hD (by kernel_rfl) (by kernel_rfl) rfl (.no 25 70 true true rfl rfl rfl rfl) rfl (fun hg _ => q_move (v := .int .i64 (i_14)) rfl rfl) ?_
            refine rd_gpure (i := 27) (g := (!true)) (d := (some 72)) hD (by kernel_rfl) (by kernel_rfl) rfl (.no 25 70 true true rfl rfl rfl rfl) rfl (fun hg _ => q_gtr (k := .i64) (a := i_14) (b := (0 : Int)) rfl (gvb_yes hg) rfl) ?_
            refine rd_gpure (i := 28) (g := (!true)) (d := (some 73)) hD (by kernel_rfl) (by kernel_rfl) rfl (.no 25 70 true true rfl rfl rfl rfl) rfl (fun hg _ => q_move (v := .bool ((decide (i_14 > (0 : Int))))) rfl (gvb_yes hg)) ?_
            refine rd_gpure (i := 29) (g := ((!true) && (decide (i_14 > (0 : Int))))) (d := (some 74)) hD (by kernel_rfl) (by kernel_rfl) rfl (.yes 28 73 (!true) (decide (i_14 > (0 : Int))) rfl rfl rfl rfl) rfl (fun hg _ => q_move (v := tSlc.enc (r13)) rfl rfl) ?_
            refine rd_gpure (i := 30) (g := ((!true) && (decide (i_14 > (0 : Int))))) (d := (some 75)) hD (by kernel_rfl) (by kernel_rfl) rfl (.yes 28 73 (!true) (decide (i_14 > (0 : Int))) rfl rfl rfl rfl) rfl (fun hg _ => q_move (v := .int .i64 (i_14)) rfl rfl) ?_
            refine rd_gpure (i := 31) (g := ((!true) && (decide (i_14 > (0 : Int))))) (d := (some 76)) hD (by kernel_rfl) (by kernel_rfl) rfl (.yes 28 73 (!true) (decide (i_14 > (0 : Int))) rfl rfl rfl rfl) rfl (fun hg _ => q_sub (k := .i64) (a := i_14) (b := (1 : Int)) rfl (gvb_yes hg) rfl) ?_
            obtain ⟨a74, ha74, h⟩ := h
            refine rd_gpure (i := 32) (g := ((!true) && (decide (i_14 > (0 : Int))))) (d := (some 77)) hD (by kernel_rfl) (by kernel_rfl) rfl (.yes 28 73 (!true) (decide (i_14 > (0 : Int))) rfl rfl rfl rfl) rfl (fun hg _ => q_indexAddr (s := r13) (k := .i64) (i := (IntKind.i64.wrap (i_14 - (1 : Int)))) rfl Tryz.underlying50 ok55 (gvb_yes hg) (gvb_yes hg) (ha74 hg)) ?_
            refine rd_gpure (i := 33) (g := ((!true) && (decide (i_14 > (0 : Int))))) (d := (some 78)) hD (by kernel_rfl) (by kernel_rfl) rfl (.yes 28 73 (!true) (decide (i_14 > (0 : Int))) rfl rfl rfl rfl) rfl (fun hg _ => q_fieldAddr (a := a74) (off := 0) rfl Tryz.underlying55 rfl rfl ok53 (by decide) (gvb_yes hg)) ?_
            refine rd_gpure (i := 34) (g := ((!true) && (decide (i_14 > (0 : Int))))) (d := (some 79)) hD (by kernel_rfl) (by kernel_rfl) rfl (.yes 28 73 (!true) (decide (i_14 > (0 : Int))) rfl rfl rfl rfl) rfl (fun hg _ => q_fieldAddr (a := (a74.add 0)) (off := 0) rfl Tryz.underlying53 rfl rfl ok3 (by decide) (gvb_yes hg)) ?_
            refine rd_gpure (i := 36) (g := ((!true) && (decide (i_14 > (0 : Int))))) (d := (some 81)) hD (by kernel_rfl) (by kernel_rfl) rfl (.yes 28 73 (!true) (decide (i_14 > (0 : Int))) rfl rfl rfl rfl) rfl (fun hg _ => q_fieldAddr (a := a19) (off := 0) rfl Tryz.underlying55 rfl rfl ok53 (by decide) rfl) ?_
            refine rd_gpure (i := 37) (g := ((!true) && (decide (i_14 > (0 : Int))))) (d := (some 82)) hD (by kernel_rfl) (by kernel_rfl) rfl (.yes 28 73 (!true) (decide (i_14 > (0 : Int))) rfl rfl rfl rfl) rfl (fun hg _ => q_fieldAddr (a := (a19.add 0)) (off := 0) rfl Tryz.underlying53 rfl rfl ok3 (by decide) (gvb_yes hg)) ?_
            obtain ⟨x75, hx75, h⟩ := h
            refine rd_gread (i := 35) (g := ((!true) && (decide (i_14 > (0 : Int))))) (d := (some 80)) (fun W => (RdAt (tInt .i64) ((a74.add 0).add 0) W) x75) hD (by kernel_rfl) (by kernel_rfl) rfl (.yes 28 73 (!true) (decide (i_14 > (0 : Int))) rfl rfl rfl rfl) rfl (fun hg W hr => q_load (T := (tInt .i64)) (u := x75) (a := ((a74.add 0).add 0)) rfl ok3 (gvb_yes hg) hr) hx75 ?_
            obtain ⟨x76, hx76, h⟩ := h
            refine rd_gread (i := 38) (g := ((!true) && (decide (i_14 > (0 : Int))))) (d := (some 83)) (fun W => (RdAt (tInt .i64) ((a19.add 0).add 0) W) x76) hD (by kernel_rfl) (by kernel_rfl) rfl (.yes 28 73 (!true) (decide (i_14 > (0 : Int))) rfl rfl rfl rfl) rfl (fun hg W hr => q_load (T := (tInt .i64)) (u := x76) (a := ((a19.add 0).add 0)) rfl ok3 (gvb_yes hg) hr) hx76 ?_
            refine rd_gpure (i := 39) (g := ((!true) && (decide (i_14 > (0 : Int))))) (d := (some 84)) hD (by kernel_rfl) (by kernel_rfl) rfl (.yes 28 73 (!true) (decide (i_14 > (0 : Int))) rfl rfl rfl rfl) rfl (fun hg _ => q_geq (k := .i64) (a := x75) (b := x76) rfl (gvb_yes hg) (gvb_yes hg)) ?_
            refine rd_gpure (i := 40) (g := (!true)) (d := (some 85)) hD (by kernel_rfl) (by kernel_rfl) rfl (.no 25 70 true true rfl rfl rfl rfl) rfl (fun hg _ => q_pickNT (g0 := (!true)) (a := (decide (i_14 > (0 : Int)))) (b := (decide (x75 ≥ x76))) hg rfl rfl rfl rfl) ?_
            refine rp 41 86 hD rfl rfl rfl (fun _ => q_pickGF (a := true) (c := ((decide (i_14 > (0 : Int))) && (decide (x75 ≥ x76)))) rfl rfl rfl rfl) ?_
            refine rd_nil (by kernel_rfl) ?_
            exact ⟨((true || ((decide (i_14 > (0 : Int))) && (decide (x75 ≥ x76))))), _, arr (upd_step (upd_step (upd_step (upd_step (upd_step (upd_step rfl rfl) rfl) rfl) rfl) rfl) rfl), h⟩
          · refine rd_pure (i := 19) (d := (some 64)) hD (by kernel_rfl) (by kernel_rfl) rfl (.by_ 18 false 63 (decide (x67 ≤ r70)) rfl rfl rfl hb73) rfl (fun _ => q_fieldAddr (a := a19) (off := 4) rfl Tryz.underlying55 rfl rfl ok2 (by decide) rfl) ?_
            refine rd_pure (i := 21) (d := (some 66)) hD (by kernel_rfl) (by kernel_rfl) rfl (.by_ 18 false 63 (decide (x67 ≤ r70)) rfl rfl rfl hb73) rfl (fun _ => q_move (v := .pointer (r7)) rfl rfl) ?_
            obtain ⟨x77, hx77, h⟩ := h
            refine rd_read (i := 20) (d := (some 65)) (fun W => (RdAt (tInt .i64) (a19.add 4) W) x77) hD (by kernel_rfl) (by kernel_rfl) rfl (.by_ 18 false 63 (decide (x67 ≤ r70)) rfl rfl rfl hb73) rfl (fun W hr => q_load (T := (tInt .i64)) (u := x77) (a := (a19.add 4)) rfl ok2 rfl hr) hx77 ?_
            refine rd_one (i := 22) (by kernel_rfl) ?_
            refine po_wp rfl (.by_ 18 false 63 (decide (x67 ≤ r70)) rfl rfl rfl hb73) (wp_cl (d := (some 67)) rfl (q_call (k := 18) (l := [.pointer (r7)]) rfl ent18 rfl) h ?_)
            intro r79 w78 h
            obtain ⟨hk80, h⟩ := h
            obtain ⟨hk81, h⟩ := h
            obtain ⟨hk82, h⟩ := h
            obtain ⟨hk83, h⟩ := h
            refine ⟨(hk_keep (fun _ => hk83) (hk_keep (fun _ => hk82) (hk_keep (fun _ => hk81) (hk_keep (fun _ => hk80) hk_nil)))), ?_⟩
            refine rd_pure (i := 23) (d := (some 68)) hD (by kernel_rfl) (by kernel_rfl) rfl (.by_ 18 false 63 (decide (x67 ≤ r70)) rfl rfl rfl hb73) rfl (fun _ => q_gtr (a := x77) (b := r79) rfl rfl rfl) ?_
            refine rp 24 69 hD rfl rfl rfl (fun _ => q_pickF (v := .bool ((decide (x77 > r79)))) (b := (decide (x67 ≤ r70))) rfl rfl hb73 rfl) ?_
            refine rp 25 70 hD rfl rfl rfl (fun _ => q_move (v := .bool ((decide (x77 > r79)))) rfl rfl) ?_
            refine rd_gpure (i := 26) (g := (!(decide (x77 > r79)))) (d := (some 71)) hD (by kernel_rfl) (by kernel_rfl) rfl (.no 25 70 true (decide (x77 > r79)) rfl rfl rfl rfl) rfl (fun hg _ => q_move (v := .int .i64 (i_14)) rfl rfl) ?_
            refine rd_gpure (i := 27) (g := (!(decide (x77 > r79)))) (d := (some 72)) hD (by kernel_rfl) (by kernel_rfl) rfl (.no 25 70 true (decide (x77 > r79)) rfl rfl rfl rfl) rfl (fun hg _ => q_gtr (k := .i64) (a := i_14) (b := (0 : Int)) rfl (gvb_yes hg) rfl) ?_
            refine rd_gpure (i := 28) (g := (!(decide (x77 > r79)))) (d := (some 73)) hD (by kernel_rfl) (by kernel_rfl) rfl (.no 25 70 true (decide (x77 > r79)) rfl rfl rfl rfl) rfl (fun hg _ => q_move (v := .bool ((decide (i_14 > (0 : Int))))) rfl (gvb_yes hg)) ?_
            refine rd_gpure (i := 29) (g := ((!(decide (x77 > r79))) && (decide (i_14 > (0 : Int))))) (d := (some 74)) hD (by kernel_rfl) (by kernel_rfl) rfl (.yes 28 73 (!(decide (x77 > r79))) (decide (i_14 > (0 : Int))) rfl rfl rfl rfl) rfl (fun hg _ => q_move (v := tSlc.enc (r13)) rfl rfl) ?_
            refine rd_gpure (i := 30) (g := ((!(decide (x77 > r79))) && (decide (i_14 > (0 : Int))))) (d := (some 75)) hD (by kernel_rfl) (by kernel_rfl) rfl (.yes 28 73 (!(decide (x77 > r79))) (decide (i_14 > (0 : Int))) rfl rfl rfl rfl) rfl (fun hg _ => q_move (v := .int .i64 (i_14)) rfl rfl) ?_
            refine rd_gpure (i := 31) (g := ((!(decide (x77 > r79))) && (decide (i_14 > (0 : Int))))) (d := (some 76)) hD (by kernel_rfl) (by kernel_rfl) rfl (.yes 28 73 (!(decide (x77 > r79))) (decide (i_14 > (0 : Int))) rfl rfl rfl rfl) rfl (fun hg _ => q_sub (k := .i64) (a := i_14) (b := (1 : Int)) rfl (gvb_yes hg) rfl) ?_
            obtain ⟨a84, ha84, h⟩ := h
            refine rd_gpure (i := 32) (g := ((!(decide (x77 > r79))) && (decide (i_14 > (0 : Int))))) (d := (some 77)) hD (by kernel_rfl) (by kernel_rfl) rfl (.yes 28 73 (!(decide (x77 > r79))) (decide (i_14 > (0 : Int))) rfl rfl rfl rfl) rfl (fun hg _ => q_indexAddr (s := r13) (k := .i64) (i := (IntKind.i64.wrap (i_14 - (1 : Int)))) rfl Tryz.underlying50 ok55 (gvb_yes hg) (gvb_yes hg) (ha84 hg)) ?_
            refine rd_gpure (i := 33) (g := ((!(decide (x77 > r79))) && (decide (i_14 > (0 : Int))))) (d := (some 78)) hD (by kernel_rfl) (by kernel_rfl) rfl (.yes 28 73 (!(decide (x77 > r79))) (decide (i_14 > (0 : Int))) rfl rfl rfl rfl) rfl (fun hg _ => q_fieldAddr (a := a84) (off := 0) rfl Tryz.underlying55 rfl rfl ok53 (by decide) (gvb_yes hg)) ?_
            refine rd_gpure (i := 34) (g := ((!(decide (x77 > r79))) && (decide (i_14 > (0 : Int))))) (d := (some 79)) hD (by kernel_rfl) (by kernel_rfl) rfl (.yes 28 73 (!(decide (x77 > r79))) (decide (i_14 > (0 : Int))) rfl rfl rfl rfl) rfl (fun hg _ => q_fieldAddr (a := (a84.add 0)) (off := 0) rfl Tryz.underlying53 rfl rfl ok3 (by decide) (gvb_yes hg)) ?_
            refine rd_gpure (i := 36) (g := ((!(decide (x77 > r79))) && (decide (i_14 > (0 : Int))))) (d := (some 81)) hD (by kernel_rfl) (by kernel_rfl) rfl (.yes 28 73 (!(decide (x77 > r79))) (decide (i_14 > (0 : Int))) rfl rfl rfl rfl) rfl (fun hg _ => q_fieldAddr (a := a19) (off := 0) rfl Tryz.underlying55 rfl rfl ok53 (by decide) rfl) ?_
            refine rd_gpure (i := 37) (g := ((!(decide (x77 > r79))) && (decide (i_14 > (0 : Int))))) (d := (some 82)) hD (by kernel_rfl) (by kernel_rfl) rfl (.yes 28 73 (!(decide (x77 > r79))) (decide (i_14 > (0 : Int))) rfl rfl rfl rfl) rfl (fun hg _ => q_fieldAddr (a := (a19.add 0)) (off := 0) rfl Tryz.underlying53 rfl rfl ok3 (by decide) (gvb_yes hg)) ?_
            obtain ⟨x85, hx85, h⟩ := h
            refine rd_gread (i := 35) (g := ((!(decide (x77 > r79))) && (decide (i_14 > (0 : Int))))) (d := (some 80)) (fun W => (RdAt (tInt .i64) ((a84.add 0).add 0) W) x85) hD (by kernel_rfl) (by kernel_rfl) rfl (.yes 28 73 (!(decide (x77 > r79))) (decide (i_14 > (0 : Int))) rfl rfl rfl rfl) rfl (fun hg W hr => q_load (T := (tInt .i64)) (u := x85) (a := ((a84.add 0).add 0)) rfl ok3 (gvb_yes hg) hr) hx85 ?_
            obtain ⟨x86, hx86, h⟩ := h
            refine rd_gread (i := 38) (g := ((!(decide (x77 > r79))) && (decide (i_14 > (0 : Int))))) (d := (some 83)) (fun W => (RdAt (tInt .i64) ((a19.add 0).add 0) W) x86) hD (by kernel_rfl) (by kernel_rfl) rfl (.yes 28 73 (!(decide (x77 > r79))) (decide (i_14 > (0 : Int))) rfl rfl rfl rfl) rfl (fun hg W hr => q_load (T := (tInt .i64)) (u := x86) (a := ((a19.add 0).add 0)) rfl ok3 (gvb_yes hg) hr) hx86 ?_
            refine rd_gpure (i := 39) (g := ((!(decide (x77 > r79))) && (decide (i_14 > (0 : Int))))) (d := (some 84)) hD (by kernel_rfl) (by kernel_rfl) rfl (.yes 28 73 (!(decide (x77 > r79))) (decide (i_14 > (0 : Int))) rfl rfl rfl rfl) rfl (fun hg _ => q_geq (k := .i64) (a := x85) (b := x86) rfl (gvb_yes hg) (gvb_yes hg)) ?_
            refine rd_gpure (i := 40) (g := (!(decide (x77 > r79)))) (d := (some 85)) hD (by kernel_rfl) (by kernel_rfl) rfl (.no 25 70 true (decide (x77 > r79)) rfl rfl rfl rfl) rfl (fun hg _ => q_pickNT (g0 := (!(decide (x77 > r79)))) (a := (decide (i_14 > (0 : Int)))) (b := (decide (x85 ≥ x86))) hg rfl rfl rfl rfl) ?_
            refine rp 41 86 hD rfl rfl rfl (fun _ => q_pickGF (a := (decide (x77 > r79))) (c := ((decide (i_14 > (0 : Int))) && (decide (x85 ≥ x86)))) rfl rfl rfl rfl) ?_
            refine rd_nil (by kernel_rfl) ?_
            exact ⟨(((decide (x77 > r79)) || ((decide (i_14 > (0 : Int))) && (decide (x85 ≥ x86))))), _, arr (upd_step (upd_step (upd_step (upd_step (upd_step (upd_step rfl rfl) rfl) rfl) rfl) rfl) rfl), h⟩
    · refine wp_exit ?_
      refine wp_seq ?_
      refine wp_text [0] rfl ?_
      refine rv 6 rfl rfl rfl (q_assign (v := .bool (true)) rfl rfl) ?_
      refine ro_nil ?_
      refine wp_ret ?_
      exact ret_ok rfl (.cons (.tmp (v := .bool (true)) rfl) .nil) ⟨true, rfl, h⟩

end Go.Proofs.YtpdaapffkdejoaaGreat.Cf
