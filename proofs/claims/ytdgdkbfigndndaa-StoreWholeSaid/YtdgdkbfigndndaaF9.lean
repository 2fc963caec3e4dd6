/- Characteristic formulae of Go functions, and that they are. Printed by gen.py (own tool). -/
import Derived.Test.YtdgdkbfigndndaaTy
namespace Go.Proofs.Ytdgdkbfigndndaa.Cf
open Go
set_option maxRecDepth 100000
set_option maxHeartbeats 1000000
set_option linter.unusedVariables false
set_option linter.unusedSimpArgs false

-- moiety/moietyref12.Put
def F27_l2 (t_2 : Int) (l_3 : Slc) (a4 : Addr) (a6 : Addr) (rows_23 : Slc) (i_24 : Int) (x28 : Int) (k_32 : Int) (w33 : World) (K26 : Slc × Int → World → Prop) (K34 : Int → World → Prop) (R : (S26 × Int) → World → Prop) : Prop :=
  if (decide (k_32 < i_24)) = true then (
    ex (IxA l_3 2 k_32) fun a35 =>
    ex (RdAt (tInt .i64) (a35.add 0) w33) fun x36 =>
    if (x36 == x28) = true then (
      ex (RdAt T26 a4 w33) fun x37 =>
      st T26 a6 x37 w33 fun w38 =>
      ex (RdAt T26 a6 w38) fun x39 =>
      R (x39, (124 : Int)) w38
    ) else (
      K34 ((IntKind.i64.wrap (k_32 + (1 : Int)))) w33
    )
  ) else (
    ex (RdAt T26 a4 w33) fun x41 =>
    cl Try.prog 14 [T26.enc (x41), .int .i64 (x28)] (tTup2 T35 tBool) w33 fun r43 w42 =>
    nw 36 T35 Z35 w42 fun a44 w45 =>
    st T35 a44 r43.1 w45 fun w46 =>
    ex (fun x => r43.2 = true → (RdAt (tInt .i64) (a44.add 0) w46) x) fun x47 =>
    if (r43.2 && (decide (x47 ≥ t_2))) = true then (
      ex (RdAt T26 a4 w46) fun x48 =>
      st T26 a6 x48 w46 fun w49 =>
      ex (RdAt T26 a6 w49) fun x50 =>
      R (x50, (121 : Int)) w49
    ) else (
      ex (RdAt T26 a4 w46) fun x51 =>
      cl Try.prog 46 [T26.enc (x51), .int .i64 (x28)] (tInt .i64) w46 fun r53 w52 =>
      if (r53 == (10000 : Int)) = true then (
        ex (RdAt T26 a4 w52) fun x54 =>
        st T26 a6 x54 w52 fun w55 =>
        ex (RdAt T26 a6 w55) fun x56 =>
        R (x56, (125 : Int)) w55
      ) else (
        ex (IxA l_3 2 i_24) fun a57 =>
        ex (RdAt T57 a57 w52) fun x58 =>
        apl 76 T75 3 24 rows_23 [(⟨t_2, x58⟩ : S75)] w52 fun r62 w61 =>
        K26 (r62, (IntKind.i64.wrap (i_24 + (1 : Int)))) w61
      )
    )
  )
def F27_l1 (t_2 : Int) (l_3 : Slc) (a4 : Addr) (a6 : Addr) (rows_23 : Slc) (i_24 : Int) (w25 : World) (K26 : Slc × Int → World → Prop) (R : (S26 × Int) → World → Prop) : Prop :=
  if (decide (i_24 < (l_3.len : Int))) = true then (
    ex (IxA l_3 2 i_24) fun a27 =>
    ex (RdAt (tInt .i64) (a27.add 0) w25) fun x28 =>
    if ((decide (x28 < (0 : Int))) || (decide (x28 > (8191 : Int)))) = true then (
      ex (RdAt T26 a4 w25) fun x29 =>
      st T26 a6 x29 w25 fun w30 =>
      ex (RdAt T26 a6 w30) fun x31 =>
      R (x31, (123 : Int)) w30
    ) else (
      lp (fun (s : Int) w K => F27_l2 t_2 l_3 a4 a6 rows_23 i_24 x28 s w K26 K R) ((0 : Int)) w25
    )
  ) else (
    st tSlc (a4.add 0) rows_23 w25 fun w67 =>
    ex (RdAt T26 a4 w67) fun x68 =>
    st T26 a6 x68 w67 fun w69 =>
    ex (RdAt T26 a6 w69) fun x70 =>
    R (x70, (0 : Int)) w69
  )
def F27 (s_1 : S26) (t_2 : Int) (l_3 : Slc) (w : World) (R : (S26 × Int) → World → Prop) : Prop :=
  nw 27 T26 s_1 w fun a4 w5 =>
  nw 27 T26 Z26 w5 fun a6 w7 =>
  if ((decide (t_2 < (1 : Int))) || (decide (t_2 > (1125899906842624 : Int)))) = true then (
    ex (RdAt T26 a4 w7) fun x8 =>
    st T26 a6 x8 w7 fun w9 =>
    ex (RdAt T26 a6 w9) fun x10 =>
    R (x10, (120 : Int)) w9
  ) else (
    ex (RdAt (tInt .i64) (a4.add 1) w7) fun x11 =>
    if (decide (t_2 ≤ x11)) = true then (
      ex (RdAt T26 a4 w7) fun x12 =>
      st T26 a6 x12 w7 fun w13 =>
      ex (RdAt T26 a6 w13) fun x14 =>
      R (x14, (121 : Int)) w13
    ) else (
      if (decide ((l_3.len : Int) > (100 : Int))) = true then (
        ex (RdAt T26 a4 w7) fun x15 =>
        st T26 a6 x15 w7 fun w16 =>
        ex (RdAt T26 a6 w16) fun x17 =>
        R (x17, (122 : Int)) w16
      ) else (
        nwS 76 T75 ([] : List S75) w7 fun a18 w19 =>
        ex (RdAt tSlc (a4.add 0) w19) fun x20 =>
        apd 76 T75 3 24 (⟨some a18, 0, 0⟩ : Slc) x20 w19 fun r22 w21 =>
        lp (fun (s : Slc × Int) w K => F27_l1 t_2 l_3 a4 a6 s.1 s.2 w K R) (r22, (0 : Int)) w21
      )
    )
  )
theorem F27_ok {s_1 : S26} {t_2 : Int} {l_3 : Slc} {w : World} {R : (S26 × Int) → World → Prop} (h : F27 s_1 t_2 l_3 w R) : cl Try.prog 27 [T26.enc (s_1), .int .i64 (t_2), tSlc.enc (l_3)] (tTup2 T26 (tInt .i64)) w R := by
  unfold F27 at h
  refine calls_start 96 Try.func27 rfl rfl (Nat.le_of_ble_eq_true rfl) ?_
  refine wp_seq ?_
  refine wp_text [0, 1, 2] rfl ?_
  obtain ⟨a4, w5, ha4, hw5, h⟩ := nw_open h
  refine ro_val (d := (some 3)) rfl (.free rfl) rfl (q_box (u := s_1) rfl ok27 rfl ha4 hw5) ?_
  obtain ⟨a6, w7, ha6, hw7, h⟩ := nw_open h
  refine ro_val (d := (some 6)) rfl (.free rfl) rfl (q_alloc (u := Z26) rfl ok27 inf27 ha6 hw7) ?_
  refine ro_val (d := (some 7)) rfl (.free rfl) rfl (q_assign (v := .int .i64 ((0 : Int))) rfl rfl) ?_
  refine ro_nil ?_
  refine wp_seq ?_
  refine wp_seq ?_
  refine wp_text [0, 1, 2, 3, 4, 5] rfl ?_
  refine ro_val (d := (some 14)) rfl (.free rfl) rfl (q_move (v := .int .i64 (t_2)) rfl rfl) ?_
  refine ro_val (d := (some 15)) rfl (.free rfl) rfl (q_lss (a := t_2) (b := (1 : Int)) rfl rfl rfl) ?_
  refine ro_val (d := (some 16)) rfl (.free rfl) rfl (q_move (v := .bool ((decide (t_2 < (1 : Int))))) rfl rfl) ?_
  refine ro_gval (g := (!(decide (t_2 < (1 : Int))))) (d := (some 17)) rfl (.no 2 16 true (decide (t_2 < (1 : Int))) rfl rfl rfl rfl) rfl (fun hg => q_move (v := .int .i64 (t_2)) rfl rfl) ?_
  refine ro_gval (g := (!(decide (t_2 < (1 : Int))))) (d := (some 18)) rfl (.no 2 16 true (decide (t_2 < (1 : Int))) rfl rfl rfl rfl) rfl (fun hg => q_gtr (a := t_2) (b := (1125899906842624 : Int)) rfl (gvb_yes hg) rfl) ?_
  refine ro_val (d := (some 19)) rfl (.free rfl) rfl (q_pickGF (a := (decide (t_2 < (1 : Int)))) (c := (decide (t_2 > (1125899906842624 : Int)))) rfl rfl rfl rfl) ?_
  refine ro_nil ?_
  refine wp_if (b := ((decide (t_2 < (1 : Int))) || (decide (t_2 > (1125899906842624 : Int))))) rfl h (fun hb74 h => ?_) (fun hb74 h => ?_)
  · refine wp_seq ?_
    refine wp_text [0, 1, 2] rfl ?_
    obtain ⟨x8, hx8, h⟩ := h
    refine ro_val (d := (some 20)) rfl (.free rfl) rfl (q_load (T := T26) (u := x8) (a := a4) rfl ok27 rfl hx8) ?_
    obtain ⟨w9, hw9, hrw9, h⟩ := st_open h
    refine ro_skip (d := none) rfl (.free rfl) rfl (q_store (T := T26) (u := x8) (a := a6) rfl ok27 rfl rfl hrw9 hw9) ?_
    refine ro_val (d := (some 7)) rfl (.free rfl) rfl (q_assign (v := .int .i64 ((120 : Int))) rfl rfl) ?_
    refine ro_nil ?_
    refine wp_ret ?_
    obtain ⟨x10, hx10, h⟩ := h
    exact ret_ok rfl (.cons (.cell (T := T26) (u := x10) (a := a6) ok27 rfl hx10) (.cons (.tmp (v := .int .i64 ((120 : Int))) rfl) .nil)) ⟨(x10, (120 : Int)), rfl, h⟩
  · refine wp_skip ?_
    refine wp_seq ?_
    refine wp_seq ?_
    refine wp_text [0, 1, 2, 3] rfl ?_
    refine ro_val (d := (some 21)) rfl (.free rfl) rfl (q_move (v := .int .i64 (t_2)) rfl rfl) ?_
    refine ro_val (d := (some 22)) rfl (.free rfl) rfl (q_fieldAddr (a := a4) (off := 1) rfl Try.underlying27 rfl rfl ok2 (by decide) rfl) ?_
    obtain ⟨x11, hx11, h⟩ := h
    refine ro_val (d := (some 23)) rfl (.free rfl) rfl (q_load (T := (tInt .i64)) (u := x11) (a := (a4.add 1)) rfl ok2 rfl hx11) ?_
    refine ro_val (d := (some 24)) rfl (.free rfl) rfl (q_leq (a := t_2) (b := x11) rfl rfl rfl) ?_
    refine ro_nil ?_
    refine wp_if (b := (decide (t_2 ≤ x11))) rfl h (fun hb73 h => ?_) (fun hb73 h => ?_)
    · refine wp_seq ?_
      refine wp_text [0, 1, 2] rfl ?_
      obtain ⟨x12, hx12, h⟩ := h
      refine ro_val (d := (some 25)) rfl (.free rfl) rfl (q_load (T := T26) (u := x12) (a := a4) rfl ok27 rfl hx12) ?_
      obtain ⟨w13, hw13, hrw13, h⟩ := st_open h
      refine ro_skip (d := none) rfl (.free rfl) rfl (q_store (T := T26) (u := x12) (a := a6) rfl ok27 rfl rfl hrw13 hw13) ?_
      refine ro_val (d := (some 7)) rfl (.free rfl) rfl (q_assign (v := .int .i64 ((121 : Int))) rfl rfl) ?_
      refine ro_nil ?_
      refine wp_ret ?_
      obtain ⟨x14, hx14, h⟩ := h
      exact ret_ok rfl (.cons (.cell (T := T26) (u := x14) (a := a6) ok27 rfl hx14) (.cons (.tmp (v := .int .i64 ((121 : Int))) rfl) .nil)) ⟨(x14, (121 : Int)), rfl, h⟩
    · refine wp_skip ?_
      refine wp_seq ?_
      refine wp_seq ?_
      refine wp_text [0, 1, 2] rfl ?_
      refine ro_val (d := (some 26)) rfl (.free rfl) rfl (q_move (v := tSlc.enc (l_3)) rfl rfl) ?_
      refine ro_val (d := (some 27)) rfl (.free rfl) rfl (q_len (s := l_3) rfl Try.underlying31 rfl) ?_
      refine ro_val (d := (some 28)) rfl (.free rfl) rfl (q_gtr (a := (l_3.len : Int)) (b := (100 : Int)) rfl rfl rfl) ?_
      refine ro_nil ?_
      refine wp_if (b := (decide ((l_3.len : Int) > (100 : Int)))) rfl h (fun hb72 h => ?_) (fun hb72 h => ?_)
      · refine wp_seq ?_
        refine wp_text [0, 1, 2] rfl ?_
        obtain ⟨x15, hx15, h⟩ := h
        refine ro_val (d := (some 29)) rfl (.free rfl) rfl (q_load (T := T26) (u := x15) (a := a4) rfl ok27 rfl hx15) ?_
        obtain ⟨w16, hw16, hrw16, h⟩ := st_open h
        refine ro_skip (d := none) rfl (.free rfl) rfl (q_store (T := T26) (u := x15) (a := a6) rfl ok27 rfl rfl hrw16 hw16) ?_
        refine ro_val (d := (some 7)) rfl (.free rfl) rfl (q_assign (v := .int .i64 ((122 : Int))) rfl rfl) ?_
        refine ro_nil ?_
        refine wp_ret ?_
        obtain ⟨x17, hx17, h⟩ := h
        exact ret_ok rfl (.cons (.cell (T := T26) (u := x17) (a := a6) ok27 rfl hx17) (.cons (.tmp (v := .int .i64 ((122 : Int))) rfl) .nil)) ⟨(x17, (122 : Int)), rfl, h⟩
      · refine wp_skip ?_
        refine wp_seq ?_
        refine wp_text [0, 1, 2, 3, 4] rfl ?_
        obtain ⟨a18, w19, ha18, hw19, h⟩ := nwS_open h
        refine ro_val (d := (some 30)) rfl (.free rfl) rfl (q_row0 (T := T75) rfl Try.underlying25 ok76 inf76 ha18 hw19) ?_
        refine ro_val (d := (some 31)) rfl (.free rfl) rfl (q_fieldAddr (a := a4) (off := 0) rfl Try.underlying27 rfl rfl ok25 (by decide) rfl) ?_
        obtain ⟨x20, hx20, h⟩ := h
        refine ro_val (d := (some 32)) rfl (.free rfl) rfl (q_load (T := tSlc) (u := x20) (a := (a4.add 0)) rfl ok25 rfl hx20) ?_
        refine ro_wp rfl (.free rfl) (wp_append (d := (some 33)) (T := T75) rfl rfl Try.underlying25 ⟨_, Try.underlying25⟩ ok76 inf76 rfl rfl (Nat.lt_of_lt_of_le Nat.zero_lt_one (Nat.le_of_ble_eq_true rfl)) rfl rfl h ?_)
        intro r22 w21 h
        refine ro_val (d := (some 8)) rfl (.free rfl) rfl (q_assign (v := tSlc.enc (r22)) rfl rfl) ?_
        refine ro_nil ?_
        refine wp_seq ?_
        refine wp_seq ?_
        refine wp_text [0] rfl ?_
        refine ro_val (d := (some 9)) rfl (.free rfl) rfl (q_assign (v := .int .i64 ((0 : Int))) rfl rfl) ?_
        refine ro_nil ?_
        refine wp_block ?_
        refine loop_at (σ := Slc × Int) (fr := fun g (s : Slc × Int) => upd (upd (upd (upd (upd (upd (g) 1 (.int .i64 (t_2))) 2 (tSlc.enc (l_3))) 3 (.pointer (some a4))) 6 (.pointer (some a6))) 8 (tSlc.enc (s.1))) 9 (.int .i64 (s.2))) (s0 := (r22, (0 : Int))) (upd_step (upd_step (upd_step (upd_step (upd_step (upd_step rfl rfl) rfl) rfl) rfl) rfl) rfl) h ?_
        rintro ⟨rows_23, i_24⟩ g w25 K26 h
        unfold F27_l1 at h
        refine wp_seq ?_
        refine wp_seq ?_
        refine wp_text [0, 1, 2, 3] rfl ?_
        refine ro_val (d := (some 34)) rfl (.free rfl) rfl (q_move (v := .int .i64 (i_24)) rfl rfl) ?_
        refine ro_val (d := (some 35)) rfl (.free rfl) rfl (q_move (v := tSlc.enc (l_3)) rfl rfl) ?_
        refine ro_val (d := (some 36)) rfl (.free rfl) rfl (q_len (s := l_3) rfl Try.underlying31 rfl) ?_
        refine ro_val (d := (some 37)) rfl (.free rfl) rfl (q_lss (a := i_24) (b := (l_3.len : Int)) rfl rfl rfl) ?_
        refine ro_nil ?_
        refine wp_if (b := (decide (i_24 < (l_3.len : Int)))) rfl h (fun hb71 h => ?_) (fun hb71 h => ?_)
        · refine wp_skip ?_
          refine wp_seq ?_
          refine wp_block ?_
          refine wp_seq ?_
          refine wp_text [0, 1, 2, 3, 4, 5] rfl ?_
          refine ro_val (d := (some 40)) rfl (.free rfl) rfl (q_move (v := tSlc.enc (l_3)) rfl rfl) ?_
          refine ro_val (d := (some 41)) rfl (.free rfl) rfl (q_move (v := .int .i64 (i_24)) rfl rfl) ?_
          obtain ⟨a27, ha27, h⟩ := h
          refine ro_val (d := (some 42)) rfl (.free rfl) rfl (q_indexAddr (s := l_3) (i := i_24) rfl Try.underlying31 ok58 rfl rfl ha27) ?_
          refine ro_val (d := (some 43)) rfl (.free rfl) rfl (q_fieldAddr (a := a27) (off := 0) rfl Try.underlying58 rfl rfl ok3 (by decide) rfl) ?_
          obtain ⟨x28, hx28, h⟩ := h
          refine ro_val (d := (some 44)) rfl (.free rfl) rfl (q_load (T := (tInt .i64)) (u := x28) (a := (a27.add 0)) rfl ok3 rfl hx28) ?_
          refine ro_val (d := (some 10)) rfl (.free rfl) rfl (q_assign (v := .int .i64 (x28)) rfl rfl) ?_
          refine ro_nil ?_
          refine wp_seq ?_
          refine wp_seq ?_
          refine wp_text [0, 1, 2, 3, 4, 5] rfl ?_
          refine ro_val (d := (some 45)) rfl (.free rfl) rfl (q_move (v := .int .i64 (x28)) rfl rfl) ?_
          refine ro_val (d := (some 46)) rfl (.free rfl) rfl (q_lss (a := x28) (b := (0 : Int)) rfl rfl rfl) ?_
          refine ro_val (d := (some 47)) rfl (.free rfl) rfl (q_move (v := .bool ((decide (x28 < (0 : Int))))) rfl rfl) ?_
          refine ro_gval (g := (!(decide (x28 < (0 : Int))))) (d := (some 48)) rfl (.no 2 47 true (decide (x28 < (0 : Int))) rfl rfl rfl rfl) rfl (fun hg => q_move (v := .int .i64 (x28)) rfl rfl) ?_
          refine ro_gval (g := (!(decide (x28 < (0 : Int))))) (d := (some 49)) rfl (.no 2 47 true (decide (x28 < (0 : Int))) rfl rfl rfl rfl) rfl (fun hg => q_gtr (a := x28) (b := (8191 : Int)) rfl (gvb_yes hg) rfl) ?_
          refine ro_val (d := (some 50)) rfl (.free rfl) rfl (q_pickGF (a := (decide (x28 < (0 : Int)))) (c := (decide (x28 > (8191 : Int)))) rfl rfl rfl rfl) ?_
          refine ro_nil ?_
          refine wp_if (b := ((decide (x28 < (0 : Int))) || (decide (x28 > (8191 : Int))))) rfl h (fun hb66 h => ?_) (fun hb66 h => ?_)
          · refine wp_seq ?_
            refine wp_text [0, 1, 2] rfl ?_
            obtain ⟨x29, hx29, h⟩ := h
            refine ro_val (d := (some 51)) rfl (.free rfl) rfl (q_load (T := T26) (u := x29) (a := a4) rfl ok27 rfl hx29) ?_
            obtain ⟨w30, hw30, hrw30, h⟩ := st_open h
            refine ro_skip (d := none) rfl (.free rfl) rfl (q_store (T := T26) (u := x29) (a := a6) rfl ok27 rfl rfl hrw30 hw30) ?_
            refine ro_val (d := (some 7)) rfl (.free rfl) rfl (q_assign (v := .int .i64 ((123 : Int))) rfl rfl) ?_
            refine ro_nil ?_
            refine wp_ret ?_
            obtain ⟨x31, hx31, h⟩ := h
            exact ret_ok rfl (.cons (.cell (T := T26) (u := x31) (a := a6) ok27 rfl hx31) (.cons (.tmp (v := .int .i64 ((123 : Int))) rfl) .nil)) ⟨(x31, (123 : Int)), rfl, h⟩
          · refine wp_skip ?_
            refine wp_seq ?_
            refine wp_seq ?_
            refine wp_text [0] rfl ?_
            refine ro_val (d := (some 11)) rfl (.free rfl) rfl (q_assign (v := .int .i64 ((0 : Int))) rfl rfl) ?_
            refine ro_nil ?_
            refine wp_block ?_
            refine loop_at (σ := Int) (fr := fun g (s : Int) => upd (upd (upd (upd (upd (upd (upd (upd (g) 1 (.int .i64 (t_2))) 2 (tSlc.enc (l_3))) 3 (.pointer (some a4))) 6 (.pointer (some a6))) 8 (tSlc.enc (rows_23))) 9 (.int .i64 (i_24))) 10 (.int .i64 (x28))) 11 (.int .i64 (s))) (s0 := ((0 : Int))) (upd_step (upd_step (upd_step (upd_step (upd_step (upd_step (upd_step (upd_step rfl rfl) rfl) rfl) rfl) rfl) rfl) rfl) rfl) h ?_
            rintro k_32 g w33 K34 h
            unfold F27_l2 at h
            refine wp_seq ?_
            refine wp_seq ?_
            refine wp_text [0, 1, 2] rfl ?_
            refine ro_val (d := (some 52)) rfl (.free rfl) rfl (q_move (v := .int .i64 (k_32)) rfl rfl) ?_
            refine ro_val (d := (some 53)) rfl (.free rfl) rfl (q_move (v := .int .i64 (i_24)) rfl rfl) ?_
            refine ro_val (d := (some 54)) rfl (.free rfl) rfl (q_lss (a := k_32) (b := i_24) rfl rfl rfl) ?_
            refine ro_nil ?_
            refine wp_if (b := (decide (k_32 < i_24))) rfl h (fun hb65 h => ?_) (fun hb65 h => ?_)
            · refine wp_skip ?_
              refine wp_seq ?_
              refine wp_block ?_
              refine wp_seq ?_
              refine wp_text [0, 1, 2, 3, 4, 5, 6] rfl ?_
              refine ro_val (d := (some 57)) rfl (.free rfl) rfl (q_move (v := tSlc.enc (l_3)) rfl rfl) ?_
              refine ro_val (d := (some 58)) rfl (.free rfl) rfl (q_move (v := .int .i64 (k_32)) rfl rfl) ?_
              obtain ⟨a35, ha35, h⟩ := h
              refine ro_val (d := (some 59)) rfl (.free rfl) rfl (q_indexAddr (s := l_3) (i := k_32) rfl Try.underlying31 ok58 rfl rfl ha35) ?_
              refine ro_val (d := (some 60)) rfl (.free rfl) rfl (q_fieldAddr (a := a35) (off := 0) rfl Try.underlying58 rfl rfl ok3 (by decide) rfl) ?_
              obtain ⟨x36, hx36, h⟩ := h
              refine ro_val (d := (some 61)) rfl (.free rfl) rfl (q_load (T := (tInt .i64)) (u := x36) (a := (a35.add 0)) rfl ok3 rfl hx36) ?_
              refine ro_val (d := (some 62)) rfl (.free rfl) rfl (q_move (v := .int .i64 (x28)) rfl rfl) ?_
              refine ro_val (d := (some 63)) rfl (.free rfl) rfl (q_eql (a := x36) (b := x28) rfl rfl rfl) ?_
              refine ro_nil ?_
              refine wp_if (b := (x36 == x28)) rfl h (fun hb40 h => ?_) (fun hb40 h => ?_)
              · refine wp_seq ?_
                refine wp_text [0, 1, 2] rfl ?_
                obtain ⟨x37, hx37, h⟩ := h
                refine ro_val (d := (some 64)) rfl (.free rfl) rfl (q_load (T := T26) (u := x37) (a := a4) rfl ok27 rfl hx37) ?_
                obtain ⟨w38, hw38, hrw38, h⟩ := st_open h
                refine ro_skip (d := none) rfl (.free rfl) rfl (q_store (T := T26) (u := x37) (a := a6) rfl ok27 rfl rfl hrw38 hw38) ?_
                refine ro_val (d := (some 7)) rfl (.free rfl) rfl (q_assign (v := .int .i64 ((124 : Int))) rfl rfl) ?_
                refine ro_nil ?_
                refine wp_ret ?_
                obtain ⟨x39, hx39, h⟩ := h
                exact ret_ok rfl (.cons (.cell (T := T26) (u := x39) (a := a6) ok27 rfl hx39) (.cons (.tmp (v := .int .i64 ((124 : Int))) rfl) .nil)) ⟨(x39, (124 : Int)), rfl, h⟩
              · refine wp_skip ?_
                refine wp_text [0, 1, 2] rfl ?_
                refine ro_val (d := (some 55)) rfl (.free rfl) rfl (q_move (v := .int .i64 (k_32)) rfl rfl) ?_
                refine ro_val (d := (some 56)) rfl (.free rfl) rfl (q_add (a := k_32) (b := (1 : Int)) rfl rfl rfl) ?_
                refine ro_val (d := (some 11)) rfl (.free rfl) rfl (q_assign (v := .int .i64 ((IntKind.i64.wrap (k_32 + (1 : Int))))) rfl rfl) ?_
                refine ro_nil ?_
                exact ⟨((IntKind.i64.wrap (k_32 + (1 : Int)))), _, arr (upd_step (upd_step (upd_step (upd_step (upd_step (upd_step (upd_step (upd_step rfl rfl) rfl) rfl) rfl) rfl) rfl) rfl) rfl), h⟩
            · refine wp_exit ?_
              refine wp_seq ?_
              refine wp_seq ?_
              refine wp_text [0, 1, 2, 3, 4, 5, 6, 7, 8] rfl ?_
              obtain ⟨x41, hx41, h⟩ := h
              refine ro_val (d := (some 66)) rfl (.free rfl) rfl (q_load (T := T26) (u := x41) (a := a4) rfl ok27 rfl hx41) ?_
              refine ro_val (d := (some 67)) rfl (.free rfl) rfl (q_move (v := .int .i64 (x28)) rfl rfl) ?_
              refine ro_wp rfl (.free rfl) (wp_cl (d := (some 68)) rfl (q_call (k := 14) (l := [T26.enc (x41), .int .i64 (x28)]) rfl ent14 rfl) h ?_)
              intro r43 w42 h
              refine ro_val (d := (some 65)) rfl (.free rfl) rfl (q_move (v := (tTup2 T35 tBool).enc (r43)) rfl rfl) ?_
              refine ro_val (d := (some 69)) rfl (.free rfl) rfl (q_extract (vs := #[T35.enc (r43.1), .bool (r43.2)]) (v := T35.enc (r43.1)) rfl rfl rfl) ?_
              refine ro_val (d := (some 70)) rfl (.free rfl) rfl (q_extract (vs := #[T35.enc (r43.1), .bool (r43.2)]) (v := .bool (r43.2)) rfl rfl rfl) ?_
              obtain ⟨a44, w45, ha44, hw45, h⟩ := nw_open h
              refine ro_val (d := (some 12)) rfl (.free rfl) rfl (q_alloc (u := Z35) rfl ok36 inf36 ha44 hw45) ?_
              obtain ⟨w46, hw46, hrw46, h⟩ := st_open h
              refine ro_skip (d := none) rfl (.free rfl) rfl (q_store (T := T35) (u := r43.1) (a := a44) rfl ok36 rfl rfl hrw46 hw46) ?_
              refine ro_val (d := (some 13)) rfl (.free rfl) rfl (q_assign (v := .bool (r43.2)) rfl rfl) ?_
              refine ro_nil ?_
              refine wp_seq ?_
              refine wp_text [0, 1, 2, 3, 4, 5, 6] rfl ?_
              refine ro_val (d := (some 71)) rfl (.free rfl) rfl (q_move (v := .bool (r43.2)) rfl rfl) ?_
              refine ro_val (d := (some 72)) rfl (.free rfl) rfl (q_move (v := .bool (r43.2)) rfl rfl) ?_
              refine ro_gval (g := r43.2) (d := (some 73)) rfl (.yes 1 72 true r43.2 rfl rfl rfl rfl) rfl (fun hg => q_fieldAddr (a := a44) (off := 0) rfl Try.underlying36 rfl rfl ok2 (by decide) rfl) ?_
              obtain ⟨x47, hx47, h⟩ := h
              refine ro_gval (g := r43.2) (d := (some 74)) rfl (.yes 1 72 true r43.2 rfl rfl rfl rfl) rfl (fun hg => q_load (T := (tInt .i64)) (u := x47) (a := (a44.add 0)) rfl ok2 (gvb_yes hg) (hx47 hg)) ?_
              refine ro_gval (g := r43.2) (d := (some 75)) rfl (.yes 1 72 true r43.2 rfl rfl rfl rfl) rfl (fun hg => q_move (v := .int .i64 (t_2)) rfl rfl) ?_
              refine ro_gval (g := r43.2) (d := (some 76)) rfl (.yes 1 72 true r43.2 rfl rfl rfl rfl) rfl (fun hg => q_geq (a := x47) (b := t_2) rfl (gvb_yes hg) (gvb_yes hg)) ?_
              refine ro_val (d := (some 77)) rfl (.free rfl) rfl (q_pickGT (a := r43.2) (b := (decide (x47 ≥ t_2))) rfl rfl rfl rfl) ?_
              refine ro_nil ?_
              refine wp_if (b := (r43.2 && (decide (x47 ≥ t_2)))) rfl h (fun hb64 h => ?_) (fun hb64 h => ?_)
              · refine wp_seq ?_
                refine wp_text [0, 1, 2] rfl ?_
                obtain ⟨x48, hx48, h⟩ := h
                refine ro_val (d := (some 78)) rfl (.free rfl) rfl (q_load (T := T26) (u := x48) (a := a4) rfl ok27 rfl hx48) ?_
                obtain ⟨w49, hw49, hrw49, h⟩ := st_open h
                refine ro_skip (d := none) rfl (.free rfl) rfl (q_store (T := T26) (u := x48) (a := a6) rfl ok27 rfl rfl hrw49 hw49) ?_
                refine ro_val (d := (some 7)) rfl (.free rfl) rfl (q_assign (v := .int .i64 ((121 : Int))) rfl rfl) ?_
                refine ro_nil ?_
                refine wp_ret ?_
                obtain ⟨x50, hx50, h⟩ := h
                exact ret_ok rfl (.cons (.cell (T := T26) (u := x50) (a := a6) ok27 rfl hx50) (.cons (.tmp (v := .int .i64 ((121 : Int))) rfl) .nil)) ⟨(x50, (121 : Int)), rfl, h⟩
              · refine wp_skip ?_
                refine wp_seq ?_
                refine wp_seq ?_
                refine wp_text [0, 1, 2, 3] rfl ?_
                obtain ⟨x51, hx51, h⟩ := h
                refine ro_val (d := (some 79)) rfl (.free rfl) rfl (q_load (T := T26) (u := x51) (a := a4) rfl ok27 rfl hx51) ?_
                refine ro_val (d := (some 80)) rfl (.free rfl) rfl (q_move (v := .int .i64 (x28)) rfl rfl) ?_
                refine ro_wp rfl (.free rfl) (wp_cl (d := (some 81)) rfl (q_call (k := 46) (l := [T26.enc (x51), .int .i64 (x28)]) rfl ent46 rfl) h ?_)
                intro r53 w52 h
                refine ro_val (d := (some 82)) rfl (.free rfl) rfl (q_eql (a := r53) (b := (10000 : Int)) rfl rfl rfl) ?_
                refine ro_nil ?_
                refine wp_if (b := (r53 == (10000 : Int))) rfl h (fun hb63 h => ?_) (fun hb63 h => ?_)
                · refine wp_seq ?_
                  refine wp_text [0, 1, 2] rfl ?_
                  obtain ⟨x54, hx54, h⟩ := h
                  refine ro_val (d := (some 83)) rfl (.free rfl) rfl (q_load (T := T26) (u := x54) (a := a4) rfl ok27 rfl hx54) ?_
                  obtain ⟨w55, hw55, hrw55, h⟩ := st_open h
                  refine ro_skip (d := none) rfl (.free rfl) rfl (q_store (T := T26) (u := x54) (a := a6) rfl ok27 rfl rfl hrw55 hw55) ?_
                  refine ro_val (d := (some 7)) rfl (.free rfl) rfl (q_assign (v := .int .i64 ((125 : Int))) rfl rfl) ?_
                  refine ro_nil ?_
                  refine wp_ret ?_
                  obtain ⟨x56, hx56, h⟩ := h
                  exact ret_ok rfl (.cons (.cell (T := T26) (u := x56) (a := a6) ok27 rfl hx56) (.cons (.tmp (v := .int .i64 ((125 : Int))) rfl) .nil)) ⟨(x56, (125 : Int)), rfl, h⟩
                · refine wp_skip ?_
                  refine wp_text [0, 1, 2, 3, 4, 5, 6, 7, 8, 9] rfl ?_
                  refine ro_val (d := (some 84)) rfl (.free rfl) rfl (q_move (v := tSlc.enc (rows_23)) rfl rfl) ?_
                  refine ro_val (d := (some 85)) rfl (.free rfl) rfl (q_move (v := .int .i64 (t_2)) rfl rfl) ?_
                  refine ro_val (d := (some 86)) rfl (.free rfl) rfl (q_move (v := tSlc.enc (l_3)) rfl rfl) ?_
                  refine ro_val (d := (some 87)) rfl (.free rfl) rfl (q_move (v := .int .i64 (i_24)) rfl rfl) ?_
                  obtain ⟨a57, ha57, h⟩ := h
                  refine ro_val (d := (some 88)) rfl (.free rfl) rfl (q_indexAddr (s := l_3) (i := i_24) rfl Try.underlying31 ok58 rfl rfl ha57) ?_
                  obtain ⟨x58, hx58, h⟩ := h
                  refine ro_val (d := (some 89)) rfl (.free rfl) rfl (q_load (T := T57) (u := x58) (a := a57) rfl ok58 rfl hx58) ?_
                  refine ro_val (d := (some 90)) rfl (.free rfl) rfl (q_build76_0_1 (v0 := t_2) (v1 := x58) rfl rfl rfl) ?_
                  obtain ⟨a59, w60, ha59, hw60, h⟩ := apl_open h
                  refine ro_val (d := (some 91)) rfl (.free rfl) rfl (q_rowOf (T := T75) (xs := [(⟨t_2, x58⟩ : S75)]) rfl Try.underlying25 ok76 inf76 rfl (by decide) (by decide) rfl ha59 hw60) ?_
                  refine ro_wp rfl (.free rfl) (wp_append (d := (some 92)) (T := T75) rfl rfl Try.underlying25 ⟨_, Try.underlying25⟩ ok76 inf76 rfl rfl (Nat.lt_of_lt_of_le Nat.zero_lt_one (Nat.le_of_ble_eq_true rfl)) rfl rfl h ?_)
                  intro r62 w61 h
                  refine ro_val (d := (some 8)) rfl (.free rfl) rfl (q_assign (v := tSlc.enc (r62)) rfl rfl) ?_
                  refine ro_nil ?_
                  refine wp_text [0, 1, 2] rfl ?_
                  refine ro_val (d := (some 38)) rfl (.free rfl) rfl (q_move (v := .int .i64 (i_24)) rfl rfl) ?_
                  refine ro_val (d := (some 39)) rfl (.free rfl) rfl (q_add (a := i_24) (b := (1 : Int)) rfl rfl rfl) ?_
                  refine ro_val (d := (some 9)) rfl (.free rfl) rfl (q_assign (v := .int .i64 ((IntKind.i64.wrap (i_24 + (1 : Int))))) rfl rfl) ?_
                  refine ro_nil ?_
                  exact ⟨(r62, (IntKind.i64.wrap (i_24 + (1 : Int)))), _, arr (upd_step (upd_step (upd_step (upd_step (upd_step (upd_step rfl rfl) rfl) rfl) rfl) rfl) rfl), h⟩
        · refine wp_exit ?_
          refine wp_seq ?_
          refine wp_text [0, 1, 2] rfl ?_
          refine ro_val (d := (some 93)) rfl (.free rfl) rfl (q_move (v := tSlc.enc (rows_23)) rfl rfl) ?_
          refine ro_val (d := (some 94)) rfl (.free rfl) rfl (q_fieldAddr (a := a4) (off := 0) rfl Try.underlying27 rfl rfl ok25 (by decide) rfl) ?_
          obtain ⟨w67, hw67, hrw67, h⟩ := st_open h
          refine ro_skip (d := none) rfl (.free rfl) rfl (q_store (T := tSlc) (u := rows_23) (a := (a4.add 0)) rfl ok25 rfl rfl hrw67 hw67) ?_
          refine ro_nil ?_
          refine wp_seq ?_
          refine wp_text [0, 1, 2] rfl ?_
          obtain ⟨x68, hx68, h⟩ := h
          refine ro_val (d := (some 95)) rfl (.free rfl) rfl (q_load (T := T26) (u := x68) (a := a4) rfl ok27 rfl hx68) ?_
          obtain ⟨w69, hw69, hrw69, h⟩ := st_open h
          refine ro_skip (d := none) rfl (.free rfl) rfl (q_store (T := T26) (u := x68) (a := a6) rfl ok27 rfl rfl hrw69 hw69) ?_
          refine ro_val (d := (some 7)) rfl (.free rfl) rfl (q_assign (v := .int .i64 ((0 : Int))) rfl rfl) ?_
          refine ro_nil ?_
          refine wp_ret ?_
          obtain ⟨x70, hx70, h⟩ := h
          exact ret_ok rfl (.cons (.cell (T := T26) (u := x70) (a := a6) ok27 rfl hx70) (.cons (.tmp (v := .int .i64 ((0 : Int))) rfl) .nil)) ⟨(x70, (0 : Int)), rfl, h⟩

-- moiety/moietyref12.Get
def F28 (s_1 : S26) (key_2 : Int) (at_3 : Int) (w : World) (R : (S35 × Int) → World → Prop) : Prop :=
  nw 27 T26 s_1 w fun a4 w5 =>
  nw 36 T35 Z35 w5 fun a6 w7 =>
  if ((decide (key_2 < (0 : Int))) || (decide (key_2 > (8191 : Int)))) = true then (
    st T35 a6 (⟨(0 : Int), (0 : Int)⟩ : S35) w7 fun w8 =>
    ex (RdAt T35 a6 w8) fun x9 =>
    R (x9, (123 : Int)) w8
  ) else (
    ex (RdAt T26 a4 w7) fun x10 =>
    cl Try.prog 37 [T26.enc (x10), .int .i64 (at_3)] (tInt .i64) w7 fun r12 w11 =>
    if (r12 != (0 : Int)) = true then (
      st T35 a6 (⟨(0 : Int), (0 : Int)⟩ : S35) w11 fun w13 =>
      ex (RdAt T35 a6 w13) fun x14 =>
      R (x14, r12) w13
    ) else (
      ex (RdAt T26 a4 w11) fun x15 =>
      cl Try.prog 39 [T26.enc (x15), .int .i64 (key_2), .int .i64 (at_3)] (tTup2 T35 tBool) w11 fun r17 w16 =>
      nw 36 T35 Z35 w16 fun a18 w19 =>
      st T35 a18 r17.1 w19 fun w20 =>
      if (!r17.2) = true then (
        st T35 a6 (⟨(0 : Int), (0 : Int)⟩ : S35) w20 fun w21 =>
        ex (RdAt T35 a6 w21) fun x22 =>
        R (x22, (127 : Int)) w21
      ) else (
        ex (RdAt T35 a18 w20) fun x23 =>
        st T35 a6 x23 w20 fun w24 =>
        ex (RdAt T35 a6 w24) fun x25 =>
        R (x25, (0 : Int)) w24
      )
    )
  )
theorem F28_ok {s_1 : S26} {key_2 : Int} {at_3 : Int} {w : World} {R : (S35 × Int) → World → Prop} (h : F28 s_1 key_2 at_3 w R) : cl Try.prog 28 [T26.enc (s_1), .int .i64 (key_2), .int .i64 (at_3)] (tTup2 T35 (tInt .i64)) w R := by
  unfold F28 at h
  refine calls_start 36 Try.func28 rfl rfl (Nat.le_of_ble_eq_true rfl) ?_
  refine wp_seq ?_
  refine wp_text [0, 1, 2] rfl ?_
  obtain ⟨a4, w5, ha4, hw5, h⟩ := nw_open h
  refine ro_val (d := (some 3)) rfl (.free rfl) rfl (q_box (u := s_1) rfl ok27 rfl ha4 hw5) ?_
  obtain ⟨a6, w7, ha6, hw7, h⟩ := nw_open h
  refine ro_val (d := (some 6)) rfl (.free rfl) rfl (q_alloc (u := Z35) rfl ok36 inf36 ha6 hw7) ?_
  refine ro_val (d := (some 7)) rfl (.free rfl) rfl (q_assign (v := .int .i64 ((0 : Int))) rfl rfl) ?_
  refine ro_nil ?_
  refine wp_seq ?_
  refine wp_seq ?_
  refine wp_text [0, 1, 2, 3, 4, 5] rfl ?_
  refine ro_val (d := (some 11)) rfl (.free rfl) rfl (q_move (v := .int .i64 (key_2)) rfl rfl) ?_
  refine ro_val (d := (some 12)) rfl (.free rfl) rfl (q_lss (a := key_2) (b := (0 : Int)) rfl rfl rfl) ?_
  refine ro_val (d := (some 13)) rfl (.free rfl) rfl (q_move (v := .bool ((decide (key_2 < (0 : Int))))) rfl rfl) ?_
  refine ro_gval (g := (!(decide (key_2 < (0 : Int))))) (d := (some 14)) rfl (.no 2 13 true (decide (key_2 < (0 : Int))) rfl rfl rfl rfl) rfl (fun hg => q_move (v := .int .i64 (key_2)) rfl rfl) ?_
  refine ro_gval (g := (!(decide (key_2 < (0 : Int))))) (d := (some 15)) rfl (.no 2 13 true (decide (key_2 < (0 : Int))) rfl rfl rfl rfl) rfl (fun hg => q_gtr (a := key_2) (b := (8191 : Int)) rfl (gvb_yes hg) rfl) ?_
  refine ro_val (d := (some 16)) rfl (.free rfl) rfl (q_pickGF (a := (decide (key_2 < (0 : Int)))) (c := (decide (key_2 > (8191 : Int)))) rfl rfl rfl rfl) ?_
  refine ro_nil ?_
  refine wp_if (b := ((decide (key_2 < (0 : Int))) || (decide (key_2 > (8191 : Int))))) rfl h (fun hb28 h => ?_) (fun hb28 h => ?_)
  · refine wp_seq ?_
    refine wp_text [0, 1, 2] rfl ?_
    refine ro_val (d := (some 17)) rfl (.free rfl) rfl (q_build36_  rfl ) ?_
    obtain ⟨w8, hw8, hrw8, h⟩ := st_open h
    refine ro_skip (d := none) rfl (.free rfl) rfl (q_store (T := T35) (u := (⟨(0 : Int), (0 : Int)⟩ : S35)) (a := a6) rfl ok36 rfl rfl hrw8 hw8) ?_
    refine ro_val (d := (some 7)) rfl (.free rfl) rfl (q_assign (v := .int .i64 ((123 : Int))) rfl rfl) ?_
    refine ro_nil ?_
    refine wp_ret ?_
    obtain ⟨x9, hx9, h⟩ := h
    exact ret_ok rfl (.cons (.cell (T := T35) (u := x9) (a := a6) ok36 rfl hx9) (.cons (.tmp (v := .int .i64 ((123 : Int))) rfl) .nil)) ⟨(x9, (123 : Int)), rfl, h⟩
  · refine wp_skip ?_
    refine wp_seq ?_
    refine wp_seq ?_
    refine wp_text [0, 1, 2, 3] rfl ?_
    obtain ⟨x10, hx10, h⟩ := h
    refine ro_val (d := (some 18)) rfl (.free rfl) rfl (q_load (T := T26) (u := x10) (a := a4) rfl ok27 rfl hx10) ?_
    refine ro_val (d := (some 19)) rfl (.free rfl) rfl (q_move (v := .int .i64 (at_3)) rfl rfl) ?_
    refine ro_wp rfl (.free rfl) (wp_cl (d := (some 20)) rfl (q_call (k := 37) (l := [T26.enc (x10), .int .i64 (at_3)]) rfl ent37 rfl) h ?_)
    intro r12 w11 h
    refine ro_val (d := (some 8)) rfl (.free rfl) rfl (q_assign (v := .int .i64 (r12)) rfl rfl) ?_
    refine ro_nil ?_
    refine wp_seq ?_
    refine wp_text [0, 1] rfl ?_
    refine ro_val (d := (some 21)) rfl (.free rfl) rfl (q_move (v := .int .i64 (r12)) rfl rfl) ?_
    refine ro_val (d := (some 22)) rfl (.free rfl) rfl (q_neq (a := r12) (b := (0 : Int)) rfl rfl rfl) ?_
    refine ro_nil ?_
    refine wp_if (b := (r12 != (0 : Int))) rfl h (fun hb27 h => ?_) (fun hb27 h => ?_)
    · refine wp_seq ?_
      refine wp_text [0, 1, 2, 3] rfl ?_
      refine ro_val (d := (some 23)) rfl (.free rfl) rfl (q_build36_  rfl ) ?_
      refine ro_val (d := (some 24)) rfl (.free rfl) rfl (q_move (v := .int .i64 (r12)) rfl rfl) ?_
      obtain ⟨w13, hw13, hrw13, h⟩ := st_open h
      refine ro_skip (d := none) rfl (.free rfl) rfl (q_store (T := T35) (u := (⟨(0 : Int), (0 : Int)⟩ : S35)) (a := a6) rfl ok36 rfl rfl hrw13 hw13) ?_
      refine ro_val (d := (some 7)) rfl (.free rfl) rfl (q_assign (v := .int .i64 (r12)) rfl rfl) ?_
      refine ro_nil ?_
      refine wp_ret ?_
      obtain ⟨x14, hx14, h⟩ := h
      exact ret_ok rfl (.cons (.cell (T := T35) (u := x14) (a := a6) ok36 rfl hx14) (.cons (.tmp (v := .int .i64 (r12)) rfl) .nil)) ⟨(x14, r12), rfl, h⟩
    · refine wp_skip ?_
      refine wp_seq ?_
      refine wp_text [0, 1, 2, 3, 4, 5, 6, 7, 8, 9] rfl ?_
      obtain ⟨x15, hx15, h⟩ := h
      refine ro_val (d := (some 26)) rfl (.free rfl) rfl (q_load (T := T26) (u := x15) (a := a4) rfl ok27 rfl hx15) ?_
      refine ro_val (d := (some 27)) rfl (.free rfl) rfl (q_move (v := .int .i64 (key_2)) rfl rfl) ?_
      refine ro_val (d := (some 28)) rfl (.free rfl) rfl (q_move (v := .int .i64 (at_3)) rfl rfl) ?_
      refine ro_wp rfl (.free rfl) (wp_cl (d := (some 29)) rfl (q_call (k := 39) (l := [T26.enc (x15), .int .i64 (key_2), .int .i64 (at_3)]) rfl ent39 rfl) h ?_)
      intro r17 w16 h
      refine ro_val (d := (some 25)) rfl (.free rfl) rfl (q_move (v := (tTup2 T35 tBool).enc (r17)) rfl rfl) ?_
      refine ro_val (d := (some 30)) rfl (.free rfl) rfl (q_extract (vs := #[T35.enc (r17.1), .bool (r17.2)]) (v := T35.enc (r17.1)) rfl rfl rfl) ?_
      refine ro_val (d := (some 31)) rfl (.free rfl) rfl (q_extract (vs := #[T35.enc (r17.1), .bool (r17.2)]) (v := .bool (r17.2)) rfl rfl rfl) ?_
      obtain ⟨a18, w19, ha18, hw19, h⟩ := nw_open h
      refine ro_val (d := (some 9)) rfl (.free rfl) rfl (q_alloc (u := Z35) rfl ok36 inf36 ha18 hw19) ?_
      obtain ⟨w20, hw20, hrw20, h⟩ := st_open h
      refine ro_skip (d := none) rfl (.free rfl) rfl (q_store (T := T35) (u := r17.1) (a := a18) rfl ok36 rfl rfl hrw20 hw20) ?_
      refine ro_val (d := (some 10)) rfl (.free rfl) rfl (q_assign (v := .bool (r17.2)) rfl rfl) ?_
      refine ro_nil ?_
      refine wp_seq ?_
      refine wp_seq ?_
      refine wp_text [0, 1] rfl ?_
      refine ro_val (d := (some 32)) rfl (.free rfl) rfl (q_move (v := .bool (r17.2)) rfl rfl) ?_
      refine ro_val (d := (some 33)) rfl (.free rfl) rfl (q_not (b := r17.2) rfl rfl) ?_
      refine ro_nil ?_
      refine wp_if (b := (!r17.2)) rfl h (fun hb26 h => ?_) (fun hb26 h => ?_)
      · refine wp_seq ?_
        refine wp_text [0, 1, 2] rfl ?_
        refine ro_val (d := (some 34)) rfl (.free rfl) rfl (q_build36_  rfl ) ?_
        obtain ⟨w21, hw21, hrw21, h⟩ := st_open h
        refine ro_skip (d := none) rfl (.free rfl) rfl (q_store (T := T35) (u := (⟨(0 : Int), (0 : Int)⟩ : S35)) (a := a6) rfl ok36 rfl rfl hrw21 hw21) ?_
        refine ro_val (d := (some 7)) rfl (.free rfl) rfl (q_assign (v := .int .i64 ((127 : Int))) rfl rfl) ?_
        refine ro_nil ?_
        refine wp_ret ?_
        obtain ⟨x22, hx22, h⟩ := h
        exact ret_ok rfl (.cons (.cell (T := T35) (u := x22) (a := a6) ok36 rfl hx22) (.cons (.tmp (v := .int .i64 ((127 : Int))) rfl) .nil)) ⟨(x22, (127 : Int)), rfl, h⟩
      · refine wp_skip ?_
        refine wp_seq ?_
        refine wp_text [0, 1, 2] rfl ?_
        obtain ⟨x23, hx23, h⟩ := h
        refine ro_val (d := (some 35)) rfl (.free rfl) rfl (q_load (T := T35) (u := x23) (a := a18) rfl ok36 rfl hx23) ?_
        obtain ⟨w24, hw24, hrw24, h⟩ := st_open h
        refine ro_skip (d := none) rfl (.free rfl) rfl (q_store (T := T35) (u := x23) (a := a6) rfl ok36 rfl rfl hrw24 hw24) ?_
        refine ro_val (d := (some 7)) rfl (.free rfl) rfl (q_assign (v := .int .i64 ((0 : Int))) rfl rfl) ?_
        refine ro_nil ?_
        refine wp_ret ?_
        obtain ⟨x25, hx25, h⟩ := h
        exact ret_ok rfl (.cons (.cell (T := T35) (u := x25) (a := a6) ok36 rfl hx25) (.cons (.tmp (v := .int .i64 ((0 : Int))) rfl) .nil)) ⟨(x25, (0 : Int)), rfl, h⟩

end Go.Proofs.Ytdgdkbfigndndaa.Cf
