/- Characteristic formulae of Go functions, and that they are. Printed by gen.py (own tool). -/
import Derived.Test.YtdgdkbfigndndaaTy
namespace Go.Proofs.Ytdgdkbfigndndaa.Cf
open Go
set_option maxRecDepth 100000
set_option maxHeartbeats 1000000
set_option linter.unusedVariables false
set_option linter.unusedSimpArgs false

-- moiety/moietylaw12.does
def F11_j1 (a4 : Addr) (a8 : Addr) (e_10 : Int) (f_11 : Int) (w12 : World) (R : (S26 × Bool) → World → Prop) : Prop :=
  ex (RdAt T26 a4 w12) fun x13 =>
  st T26 a8 x13 w12 fun w14 =>
  ex (RdAt T26 a8 w14) fun x15 =>
  R (x15, (e_10 == f_11)) w14
def F11_l2 (a4 : Addr) (a8 : Addr) (r21 : Slc) (r24 : Int) (r29 : (S26 × Int)) (i_31 : Int) (w32 : World) (K33 : Int → World → Prop) (R : (S26 × Bool) → World → Prop) : Prop :=
  if (decide (i_31 < (r21.len : Int))) = true then (
    ex (IxA r21 2 i_31) fun a34 =>
    ex (RdAt (tInt .i64) (a34.add 1) w32) fun x35 =>
    ex (IxA r21 2 i_31) fun a36 =>
    st (tInt .i64) (a36.add 1) (IntKind.i64.wrap (x35 + (1 : Int))) w32 fun w37 =>
    K33 ((IntKind.i64.wrap (i_31 + (1 : Int)))) w37
  ) else (
    F11_j1 a4 a8 r24 r29.2 w32 R
  )
def F11_l3 (a4 : Addr) (a8 : Addr) (r62 : (Slc × Int)) (r66 : (Slc × Int)) (i_72 : Int) (w73 : World) (K74 : Int → World → Prop) (R : (S26 × Bool) → World → Prop) : Prop :=
  if (decide (i_72 < (r62.1.len : Int))) = true then (
    ex (IxA r62.1 2 i_72) fun a75 =>
    ex (RdAt (tInt .i64) (a75.add 1) w73) fun x76 =>
    ex (IxA r62.1 2 i_72) fun a77 =>
    st (tInt .i64) (a77.add 1) (IntKind.i64.wrap (x76 + (1 : Int))) w73 fun w78 =>
    K74 ((IntKind.i64.wrap (i_72 + (1 : Int)))) w78
  ) else (
    F11_j1 a4 a8 r62.2 r66.2 w73 R
  )
def F11 (s_1 : (Option Addr)) (m_2 : S26) (o_3 : S32) (w : World) (R : (S26 × Bool) → World → Prop) : Prop :=
  nw 27 T26 m_2 w fun a4 w5 =>
  nw 33 T32 o_3 w5 fun a6 w7 =>
  nw 27 T26 Z26 w7 fun a8 w9 =>
  ex (RdAt (tInt .i64) (a6.add 0) w9) fun x16 =>
  if (x16 == (0 : Int)) = true then (
    nwS 58 T57 ([] : List S57) w9 fun a17 w18 =>
    ex (RdAt tSlc (a6.add 3) w18) fun x19 =>
    apd 58 T57 2 16 (⟨some a17, 0, 0⟩ : Slc) x19 w18 fun r21 w20 =>
    ex (RdAt (tInt .i64) (a6.add 2) w20) fun x22 =>
    cl Try.prog 23 [.pointer (s_1), .int .i64 (x22), tSlc.enc (r21)] (tInt .i64) w20 fun r24 w23 =>
    ex (RdAt T26 a4 w23) fun x25 =>
    ex (RdAt (tInt .i64) (a6.add 2) w23) fun x26 =>
    ex (RdAt tSlc (a6.add 3) w23) fun x27 =>
    cl Try.prog 27 [T26.enc (x25), .int .i64 (x26), tSlc.enc (x27)] (tTup2 T26 (tInt .i64)) w23 fun r29 w28 =>
    st T26 a4 r29.1 w28 fun w30 =>
    lp (fun (s : Int) w K => F11_l2 a4 a8 r21 r24 r29 s w K R) ((0 : Int)) w30
  ) else (
    if (x16 == (1 : Int)) = true then (
      ex (RdAt (tInt .i64) (a6.add 1) w9) fun x39 =>
      ex (RdAt (tInt .i64) (a6.add 2) w9) fun x40 =>
      cl Try.prog 25 [.pointer (s_1), .int .i64 (x39), .int .i64 (x40)] (tTup2 T35 (tInt .i64)) w9 fun r42 w41 =>
      nw 36 T35 Z35 w41 fun a43 w44 =>
      st T35 a43 r42.1 w44 fun w45 =>
      ex (RdAt T26 a4 w45) fun x46 =>
      ex (RdAt (tInt .i64) (a6.add 1) w45) fun x47 =>
      ex (RdAt (tInt .i64) (a6.add 2) w45) fun x48 =>
      cl Try.prog 28 [T26.enc (x46), .int .i64 (x47), .int .i64 (x48)] (tTup2 T35 (tInt .i64)) w45 fun r50 w49 =>
      nw 36 T35 Z35 w49 fun a51 w52 =>
      st T35 a51 r50.1 w52 fun w53 =>
      ex (RdAt T35 a43 w53) fun x54 =>
      ex (RdAt T35 a51 w53) fun x55 =>
      if (!(S35.eqb x54 x55)) = true then (
        ex (RdAt T26 a4 w53) fun x56 =>
        st T26 a8 x56 w53 fun w57 =>
        ex (RdAt T26 a8 w57) fun x58 =>
        R (x58, false) w57
      ) else (
        F11_j1 a4 a8 r42.2 r50.2 w53 R
      )
    ) else (
      if (x16 == (2 : Int)) = true then (
        ex (RdAt (tInt .i64) (a6.add 2) w9) fun x60 =>
        cl Try.prog 18 [.pointer (s_1), .int .i64 (x60)] (tTup2 tSlc (tInt .i64)) w9 fun r62 w61 =>
        ex (RdAt T26 a4 w61) fun x63 =>
        ex (RdAt (tInt .i64) (a6.add 2) w61) fun x64 =>
        cl Try.prog 19 [T26.enc (x63), .int .i64 (x64)] (tTup2 tSlc (tInt .i64)) w61 fun r66 w65 =>
        cl Try.prog 20 [tSlc.enc (r62.1), tSlc.enc (r66.1)] tBool w65 fun r68 w67 =>
        if (!r68) = true then (
          ex (RdAt T26 a4 w67) fun x69 =>
          st T26 a8 x69 w67 fun w70 =>
          ex (RdAt T26 a8 w70) fun x71 =>
          R (x71, false) w70
        ) else (
          lp (fun (s : Int) w K => F11_l3 a4 a8 r62 r66 s w K R) ((0 : Int)) w67
        )
      ) else (
        if (x16 == (3 : Int)) = true then (
          ex (RdAt (tInt .i64) (a6.add 2) w9) fun x81 =>
          cl Try.prog 26 [.pointer (s_1), .int .i64 (x81)] (tInt .i64) w9 fun r83 w82 =>
          ex (RdAt T26 a4 w82) fun x84 =>
          ex (RdAt (tInt .i64) (a6.add 2) w82) fun x85 =>
          cl Try.prog 29 [T26.enc (x84), .int .i64 (x85)] (tTup2 T26 (tInt .i64)) w82 fun r87 w86 =>
          st T26 a4 r87.1 w86 fun w88 =>
          F11_j1 a4 a8 r83 r87.2 w88 R
        ) else (
          if (x16 == (4 : Int)) = true then (
            ex (RdAt (tInt .i64) (a6.add 2) w9) fun x89 =>
            cl Try.prog 24 [.pointer (s_1), .int .i64 (x89)] (tInt .i64) w9 fun r91 w90 =>
            ex (RdAt T26 a4 w90) fun x92 =>
            ex (RdAt (tInt .i64) (a6.add 2) w90) fun x93 =>
            cl Try.prog 30 [T26.enc (x92), .int .i64 (x93)] (tTup2 T26 (tInt .i64)) w90 fun r95 w94 =>
            st T26 a4 r95.1 w94 fun w96 =>
            F11_j1 a4 a8 r91 r95.2 w96 R
          ) else (
            F11_j1 a4 a8 (0 : Int) (0 : Int) w9 R
          )
        )
      )
    )
  )
theorem F11_ok {s_1 : (Option Addr)} {m_2 : S26} {o_3 : S32} {w : World} {R : (S26 × Bool) → World → Prop} (h : F11 s_1 m_2 o_3 w R) : cl Try.prog 11 [.pointer (s_1), T26.enc (m_2), T32.enc (o_3)] (tTup2 T26 tBool) w R := by
  unfold F11 at h
  refine calls_start 150 Try.func11 rfl rfl (Nat.le_of_ble_eq_true rfl) ?_
  refine wp_seq ?_
  refine wp_text [0, 1, 2, 3] rfl ?_
  obtain ⟨a4, w5, ha4, hw5, h⟩ := nw_open h
  refine ro_val (d := (some 4)) rfl (.free rfl) rfl (q_box (u := m_2) rfl ok27 rfl ha4 hw5) ?_
  obtain ⟨a6, w7, ha6, hw7, h⟩ := nw_open h
  refine ro_val (d := (some 5)) rfl (.free rfl) rfl (q_box (u := o_3) rfl ok33 rfl ha6 hw7) ?_
  obtain ⟨a8, w9, ha8, hw9, h⟩ := nw_open h
  refine ro_val (d := (some 6)) rfl (.free rfl) rfl (q_alloc (u := Z26) rfl ok27 inf27 ha8 hw9) ?_
  refine ro_val (d := (some 7)) rfl (.free rfl) rfl (q_assign (v := .bool (false)) rfl rfl) ?_
  refine ro_nil ?_
  refine wp_seq ?_
  refine wp_text [0, 1] rfl ?_
  refine ro_val (d := (some 8)) rfl (.free rfl) rfl (q_assign (v := .int .i64 ((0 : Int))) rfl rfl) ?_
  refine ro_val (d := (some 9)) rfl (.free rfl) rfl (q_assign (v := .int .i64 ((0 : Int))) rfl rfl) ?_
  refine ro_nil ?_
  refine seq_join (σ := Int × Int) (J := fun (s : Int × Int) w => F11_j1 a4 a8 s.1 s.2 w R) (fr := fun g (s : Int × Int) => upd (upd (upd (upd (g) 4 (.pointer (some a4))) 6 (.pointer (some a8))) 8 (.int .i64 (s.1))) 9 (.int .i64 (s.2))) ?_ ?_
  · rintro ⟨e_10, f_11⟩ g w12 h
    unfold F11_j1 at h
    refine wp_seq ?_
    refine wp_text [0, 1, 2, 3, 4, 5] rfl ?_
    obtain ⟨x13, hx13, h⟩ := h
    refine ro_val (d := (some 146)) rfl (.free rfl) rfl (q_load (T := T26) (u := x13) (a := a4) rfl ok27 rfl hx13) ?_
    refine ro_val (d := (some 147)) rfl (.free rfl) rfl (q_move (v := .int .i64 (e_10)) rfl rfl) ?_
    refine ro_val (d := (some 148)) rfl (.free rfl) rfl (q_move (v := .int .i64 (f_11)) rfl rfl) ?_
    refine ro_val (d := (some 149)) rfl (.free rfl) rfl (q_eql (a := e_10) (b := f_11) rfl rfl rfl) ?_
    obtain ⟨w14, hw14, hrw14, h⟩ := st_open h
    refine ro_skip (d := none) rfl (.free rfl) rfl (q_store (T := T26) (u := x13) (a := a8) rfl ok27 rfl rfl hrw14 hw14) ?_
    refine ro_val (d := (some 7)) rfl (.free rfl) rfl (q_assign (v := .bool ((e_10 == f_11))) rfl rfl) ?_
    refine ro_nil ?_
    refine wp_ret ?_
    obtain ⟨x15, hx15, h⟩ := h
    exact ret_ok rfl (.cons (.cell (T := T26) (u := x15) (a := a8) ok27 rfl hx15) (.cons (.tmp (v := .bool ((e_10 == f_11))) rfl) .nil)) ⟨(x15, (e_10 == f_11)), rfl, h⟩
  · refine wp_seq ?_
    refine wp_text [0, 1] rfl ?_
    refine ro_val (d := (some 21)) rfl (.free rfl) rfl (q_fieldAddr (a := a6) (off := 0) rfl Try.underlying33 rfl rfl ok3 (by decide) rfl) ?_
    obtain ⟨x16, hx16, h⟩ := h
    refine ro_val (d := (some 22)) rfl (.free rfl) rfl (q_load (T := (tInt .i64)) (u := x16) (a := (a6.add 0)) rfl ok3 rfl hx16) ?_
    refine ro_nil ?_
    refine wp_block ?_
    refine wp_seq ?_
    refine wp_text [0, 1] rfl ?_
    refine ro_val (d := (some 24)) rfl (.free rfl) rfl (q_eql (a := x16) (b := (0 : Int)) rfl rfl rfl) ?_
    refine ro_val (d := (some 23)) rfl (.free rfl) rfl (q_assign (v := .bool ((x16 == (0 : Int)))) rfl rfl) ?_
    refine ro_nil ?_
    refine wp_if (b := (x16 == (0 : Int))) rfl h (fun hb101 h => ?_) (fun hb101 h => ?_)
    · refine wp_seq ?_
      refine wp_text [0, 1, 2, 3, 4] rfl ?_
      obtain ⟨a17, w18, ha17, hw18, h⟩ := nwS_open h
      refine ro_val (d := (some 25)) rfl (.free rfl) rfl (q_row0 (T := T57) rfl Try.underlying31 ok58 inf58 ha17 hw18) ?_
      refine ro_val (d := (some 26)) rfl (.free rfl) rfl (q_fieldAddr (a := a6) (off := 3) rfl Try.underlying33 rfl rfl ok31 (by decide) rfl) ?_
      obtain ⟨x19, hx19, h⟩ := h
      refine ro_val (d := (some 27)) rfl (.free rfl) rfl (q_load (T := tSlc) (u := x19) (a := (a6.add 3)) rfl ok31 rfl hx19) ?_
      refine ro_wp rfl (.free rfl) (wp_append (d := (some 28)) (T := T57) rfl rfl Try.underlying31 ⟨_, Try.underlying31⟩ ok58 inf58 rfl rfl (Nat.lt_of_lt_of_le Nat.zero_lt_one (Nat.le_of_ble_eq_true rfl)) rfl rfl h ?_)
      intro r21 w20 h
      refine ro_val (d := (some 10)) rfl (.free rfl) rfl (q_assign (v := tSlc.enc (r21)) rfl rfl) ?_
      refine ro_nil ?_
      refine wp_seq ?_
      refine wp_text [0, 1, 2, 3, 4, 5] rfl ?_
      refine ro_val (d := (some 29)) rfl (.free rfl) rfl (q_move (v := .pointer (s_1)) rfl rfl) ?_
      refine ro_val (d := (some 30)) rfl (.free rfl) rfl (q_fieldAddr (a := a6) (off := 2) rfl Try.underlying33 rfl rfl ok2 (by decide) rfl) ?_
      obtain ⟨x22, hx22, h⟩ := h
      refine ro_val (d := (some 31)) rfl (.free rfl) rfl (q_load (T := (tInt .i64)) (u := x22) (a := (a6.add 2)) rfl ok2 rfl hx22) ?_
      refine ro_val (d := (some 32)) rfl (.free rfl) rfl (q_move (v := tSlc.enc (r21)) rfl rfl) ?_
      refine ro_wp rfl (.free rfl) (wp_cl (d := (some 33)) rfl (q_call (k := 23) (l := [.pointer (s_1), .int .i64 (x22), tSlc.enc (r21)]) rfl ent23 rfl) h ?_)
      intro r24 w23 h
      refine ro_val (d := (some 8)) rfl (.free rfl) rfl (q_assign (v := .int .i64 (r24)) rfl rfl) ?_
      refine ro_nil ?_
      refine wp_seq ?_
      refine wp_text [0, 1, 2, 3, 4, 5, 6, 7, 8, 9, 10] rfl ?_
      obtain ⟨x25, hx25, h⟩ := h
      refine ro_val (d := (some 35)) rfl (.free rfl) rfl (q_load (T := T26) (u := x25) (a := a4) rfl ok27 rfl hx25) ?_
      refine ro_val (d := (some 36)) rfl (.free rfl) rfl (q_fieldAddr (a := a6) (off := 2) rfl Try.underlying33 rfl rfl ok2 (by decide) rfl) ?_
      obtain ⟨x26, hx26, h⟩ := h
      refine ro_val (d := (some 37)) rfl (.free rfl) rfl (q_load (T := (tInt .i64)) (u := x26) (a := (a6.add 2)) rfl ok2 rfl hx26) ?_
      refine ro_val (d := (some 38)) rfl (.free rfl) rfl (q_fieldAddr (a := a6) (off := 3) rfl Try.underlying33 rfl rfl ok31 (by decide) rfl) ?_
      obtain ⟨x27, hx27, h⟩ := h
      refine ro_val (d := (some 39)) rfl (.free rfl) rfl (q_load (T := tSlc) (u := x27) (a := (a6.add 3)) rfl ok31 rfl hx27) ?_
      refine ro_wp rfl (.free rfl) (wp_cl (d := (some 40)) rfl (q_call (k := 27) (l := [T26.enc (x25), .int .i64 (x26), tSlc.enc (x27)]) rfl ent27 rfl) h ?_)
      intro r29 w28 h
      refine ro_val (d := (some 34)) rfl (.free rfl) rfl (q_move (v := (tTup2 T26 (tInt .i64)).enc (r29)) rfl rfl) ?_
      refine ro_val (d := (some 41)) rfl (.free rfl) rfl (q_extract (vs := #[T26.enc (r29.1), .int .i64 (r29.2)]) (v := T26.enc (r29.1)) rfl rfl rfl) ?_
      refine ro_val (d := (some 42)) rfl (.free rfl) rfl (q_extract (vs := #[T26.enc (r29.1), .int .i64 (r29.2)]) (v := .int .i64 (r29.2)) rfl rfl rfl) ?_
      obtain ⟨w30, hw30, hrw30, h⟩ := st_open h
      refine ro_skip (d := none) rfl (.free rfl) rfl (q_store (T := T26) (u := r29.1) (a := a4) rfl ok27 rfl rfl hrw30 hw30) ?_
      refine ro_val (d := (some 9)) rfl (.free rfl) rfl (q_assign (v := .int .i64 (r29.2)) rfl rfl) ?_
      refine ro_nil ?_
      refine wp_seq ?_
      refine wp_text [0] rfl ?_
      refine ro_val (d := (some 11)) rfl (.free rfl) rfl (q_assign (v := .int .i64 ((0 : Int))) rfl rfl) ?_
      refine ro_nil ?_
      refine wp_block ?_
      refine loop_at (σ := Int) (fr := fun g (s : Int) => upd (upd (upd (upd (upd (upd (g) 4 (.pointer (some a4))) 6 (.pointer (some a8))) 8 (.int .i64 (r24))) 9 (.int .i64 (r29.2))) 10 (tSlc.enc (r21))) 11 (.int .i64 (s))) (s0 := ((0 : Int))) (upd_step (upd_step (upd_step (upd_step (upd_step (upd_step rfl rfl) rfl) rfl) rfl) rfl) rfl) h ?_
      rintro i_31 g w32 K33 h
      unfold F11_l2 at h
      refine wp_seq ?_
      refine wp_seq ?_
      refine wp_text [0, 1, 2, 3] rfl ?_
      refine ro_val (d := (some 43)) rfl (.free rfl) rfl (q_move (v := .int .i64 (i_31)) rfl rfl) ?_
      refine ro_val (d := (some 44)) rfl (.free rfl) rfl (q_move (v := tSlc.enc (r21)) rfl rfl) ?_
      refine ro_val (d := (some 45)) rfl (.free rfl) rfl (q_len (s := r21) rfl Try.underlying31 rfl) ?_
      refine ro_val (d := (some 46)) rfl (.free rfl) rfl (q_lss (a := i_31) (b := (r21.len : Int)) rfl rfl rfl) ?_
      refine ro_nil ?_
      refine wp_if (b := (decide (i_31 < (r21.len : Int)))) rfl h (fun hb38 h => ?_) (fun hb38 h => ?_)
      · refine wp_skip ?_
        refine wp_seq ?_
        refine wp_block ?_
        refine wp_text [0, 1, 2, 3, 4, 5, 6, 7, 8] rfl ?_
        refine ro_val (d := (some 49)) rfl (.free rfl) rfl (q_move (v := tSlc.enc (r21)) rfl rfl) ?_
        refine ro_val (d := (some 50)) rfl (.free rfl) rfl (q_move (v := .int .i64 (i_31)) rfl rfl) ?_
        obtain ⟨a34, ha34, h⟩ := h
        refine ro_val (d := (some 51)) rfl (.free rfl) rfl (q_indexAddr (s := r21) (i := i_31) rfl Try.underlying31 ok58 rfl rfl ha34) ?_
        refine ro_val (d := (some 52)) rfl (.free rfl) rfl (q_fieldAddr (a := a34) (off := 1) rfl Try.underlying58 rfl rfl ok2 (by decide) rfl) ?_
        obtain ⟨x35, hx35, h⟩ := h
        refine ro_val (d := (some 53)) rfl (.free rfl) rfl (q_load (T := (tInt .i64)) (u := x35) (a := (a34.add 1)) rfl ok2 rfl hx35) ?_
        refine ro_val (d := (some 54)) rfl (.free rfl) rfl (q_add (a := x35) (b := (1 : Int)) rfl rfl rfl) ?_
        obtain ⟨a36, ha36, h⟩ := h
        refine ro_val (d := (some 55)) rfl (.free rfl) rfl (q_indexAddr (s := r21) (i := i_31) rfl Try.underlying31 ok58 rfl rfl ha36) ?_
        refine ro_val (d := (some 56)) rfl (.free rfl) rfl (q_fieldAddr (a := a36) (off := 1) rfl Try.underlying58 rfl rfl ok2 (by decide) rfl) ?_
        obtain ⟨w37, hw37, hrw37, h⟩ := st_open h
        refine ro_skip (d := none) rfl (.free rfl) rfl (q_store (T := (tInt .i64)) (u := (IntKind.i64.wrap (x35 + (1 : Int)))) (a := (a36.add 1)) rfl ok2 rfl rfl hrw37 hw37) ?_
        refine ro_nil ?_
        refine wp_text [0, 1, 2] rfl ?_
        refine ro_val (d := (some 47)) rfl (.free rfl) rfl (q_move (v := .int .i64 (i_31)) rfl rfl) ?_
        refine ro_val (d := (some 48)) rfl (.free rfl) rfl (q_add (a := i_31) (b := (1 : Int)) rfl rfl rfl) ?_
        refine ro_val (d := (some 11)) rfl (.free rfl) rfl (q_assign (v := .int .i64 ((IntKind.i64.wrap (i_31 + (1 : Int))))) rfl rfl) ?_
        refine ro_nil ?_
        exact ⟨((IntKind.i64.wrap (i_31 + (1 : Int)))), _, arr (upd_step (upd_step (upd_step (upd_step (upd_step (upd_step rfl rfl) rfl) rfl) rfl) rfl) rfl), h⟩
      · refine wp_exit ?_
        exact ⟨(r24, r29.2), _, arr (upd_step (upd_step (upd_step (upd_step rfl rfl) rfl) rfl) rfl), h⟩
    · refine wp_seq ?_
      refine wp_text [0, 1] rfl ?_
      refine ro_val (d := (some 58)) rfl (.free rfl) rfl (q_eql (a := x16) (b := (1 : Int)) rfl rfl rfl) ?_
      refine ro_val (d := (some 57)) rfl (.free rfl) rfl (q_assign (v := .bool ((x16 == (1 : Int)))) rfl rfl) ?_
      refine ro_nil ?_
      refine wp_if (b := (x16 == (1 : Int))) rfl h (fun hb100 h => ?_) (fun hb100 h => ?_)
      · refine wp_seq ?_
        refine wp_text [0, 1, 2, 3, 4, 5, 6, 7, 8, 9, 10, 11] rfl ?_
        refine ro_val (d := (some 60)) rfl (.free rfl) rfl (q_move (v := .pointer (s_1)) rfl rfl) ?_
        refine ro_val (d := (some 61)) rfl (.free rfl) rfl (q_fieldAddr (a := a6) (off := 1) rfl Try.underlying33 rfl rfl ok3 (by decide) rfl) ?_
        obtain ⟨x39, hx39, h⟩ := h
        refine ro_val (d := (some 62)) rfl (.free rfl) rfl (q_load (T := (tInt .i64)) (u := x39) (a := (a6.add 1)) rfl ok3 rfl hx39) ?_
        refine ro_val (d := (some 63)) rfl (.free rfl) rfl (q_fieldAddr (a := a6) (off := 2) rfl Try.underlying33 rfl rfl ok2 (by decide) rfl) ?_
        obtain ⟨x40, hx40, h⟩ := h
        refine ro_val (d := (some 64)) rfl (.free rfl) rfl (q_load (T := (tInt .i64)) (u := x40) (a := (a6.add 2)) rfl ok2 rfl hx40) ?_
        refine ro_wp rfl (.free rfl) (wp_cl (d := (some 65)) rfl (q_call (k := 25) (l := [.pointer (s_1), .int .i64 (x39), .int .i64 (x40)]) rfl ent25 rfl) h ?_)
        intro r42 w41 h
        refine ro_val (d := (some 59)) rfl (.free rfl) rfl (q_move (v := (tTup2 T35 (tInt .i64)).enc (r42)) rfl rfl) ?_
        refine ro_val (d := (some 66)) rfl (.free rfl) rfl (q_extract (vs := #[T35.enc (r42.1), .int .i64 (r42.2)]) (v := T35.enc (r42.1)) rfl rfl rfl) ?_
        refine ro_val (d := (some 67)) rfl (.free rfl) rfl (q_extract (vs := #[T35.enc (r42.1), .int .i64 (r42.2)]) (v := .int .i64 (r42.2)) rfl rfl rfl) ?_
        obtain ⟨a43, w44, ha43, hw44, h⟩ := nw_open h
        refine ro_val (d := (some 12)) rfl (.free rfl) rfl (q_alloc (u := Z35) rfl ok36 inf36 ha43 hw44) ?_
        obtain ⟨w45, hw45, hrw45, h⟩ := st_open h
        refine ro_skip (d := none) rfl (.free rfl) rfl (q_store (T := T35) (u := r42.1) (a := a43) rfl ok36 rfl rfl hrw45 hw45) ?_
        refine ro_val (d := (some 13)) rfl (.free rfl) rfl (q_assign (v := .int .i64 (r42.2)) rfl rfl) ?_
        refine ro_nil ?_
        refine wp_seq ?_
        refine wp_text [0, 1, 2, 3, 4, 5, 6, 7, 8, 9, 10, 11] rfl ?_
        obtain ⟨x46, hx46, h⟩ := h
        refine ro_val (d := (some 69)) rfl (.free rfl) rfl (q_load (T := T26) (u := x46) (a := a4) rfl ok27 rfl hx46) ?_
        refine ro_val (d := (some 70)) rfl (.free rfl) rfl (q_fieldAddr (a := a6) (off := 1) rfl Try.underlying33 rfl rfl ok3 (by decide) rfl) ?_
        obtain ⟨x47, hx47, h⟩ := h
        refine ro_val (d := (some 71)) rfl (.free rfl) rfl (q_load (T := (tInt .i64)) (u := x47) (a := (a6.add 1)) rfl ok3 rfl hx47) ?_
        refine ro_val (d := (some 72)) rfl (.free rfl) rfl (q_fieldAddr (a := a6) (off := 2) rfl Try.underlying33 rfl rfl ok2 (by decide) rfl) ?_
        obtain ⟨x48, hx48, h⟩ := h
        refine ro_val (d := (some 73)) rfl (.free rfl) rfl (q_load (T := (tInt .i64)) (u := x48) (a := (a6.add 2)) rfl ok2 rfl hx48) ?_
        refine ro_wp rfl (.free rfl) (wp_cl (d := (some 74)) rfl (q_call (k := 28) (l := [T26.enc (x46), .int .i64 (x47), .int .i64 (x48)]) rfl ent28 rfl) h ?_)
        intro r50 w49 h
        refine ro_val (d := (some 68)) rfl (.free rfl) rfl (q_move (v := (tTup2 T35 (tInt .i64)).enc (r50)) rfl rfl) ?_
        refine ro_val (d := (some 75)) rfl (.free rfl) rfl (q_extract (vs := #[T35.enc (r50.1), .int .i64 (r50.2)]) (v := T35.enc (r50.1)) rfl rfl rfl) ?_
        refine ro_val (d := (some 76)) rfl (.free rfl) rfl (q_extract (vs := #[T35.enc (r50.1), .int .i64 (r50.2)]) (v := .int .i64 (r50.2)) rfl rfl rfl) ?_
        obtain ⟨a51, w52, ha51, hw52, h⟩ := nw_open h
        refine ro_val (d := (some 14)) rfl (.free rfl) rfl (q_alloc (u := Z35) rfl ok36 inf36 ha51 hw52) ?_
        obtain ⟨w53, hw53, hrw53, h⟩ := st_open h
        refine ro_skip (d := none) rfl (.free rfl) rfl (q_store (T := T35) (u := r50.1) (a := a51) rfl ok36 rfl rfl hrw53 hw53) ?_
        refine ro_val (d := (some 15)) rfl (.free rfl) rfl (q_assign (v := .int .i64 (r50.2)) rfl rfl) ?_
        refine ro_nil ?_
        refine wp_seq ?_
        refine wp_text [0, 1, 2, 3] rfl ?_
        refine ro_val (d := (some 77)) rfl (.free rfl) rfl (q_move (v := .int .i64 (r42.2)) rfl rfl) ?_
        refine ro_val (d := (some 78)) rfl (.free rfl) rfl (q_move (v := .int .i64 (r50.2)) rfl rfl) ?_
        refine ro_val (d := (some 8)) rfl (.free rfl) rfl (q_assign (v := .int .i64 (r42.2)) rfl rfl) ?_
        refine ro_val (d := (some 9)) rfl (.free rfl) rfl (q_assign (v := .int .i64 (r50.2)) rfl rfl) ?_
        refine ro_nil ?_
        refine wp_seq ?_
        refine wp_text [0, 1, 2] rfl ?_
        obtain ⟨x54, hx54, h⟩ := h
        refine ro_val (d := (some 79)) rfl (.free rfl) rfl (q_load (T := T35) (u := x54) (a := a43) rfl ok36 rfl hx54) ?_
        obtain ⟨x55, hx55, h⟩ := h
        refine ro_val (d := (some 80)) rfl (.free rfl) rfl (q_load (T := T35) (u := x55) (a := a51) rfl ok36 rfl hx55) ?_
        refine ro_val (d := (some 81)) rfl (.free rfl) rfl (q_neT (r := (S35.eqb x54 x55)) rfl (eq36 x54 x55) rfl rfl) ?_
        refine ro_nil ?_
        refine wp_if (b := (!(S35.eqb x54 x55))) rfl h (fun hb59 h => ?_) (fun hb59 h => ?_)
        · refine wp_seq ?_
          refine wp_text [0, 1, 2] rfl ?_
          obtain ⟨x56, hx56, h⟩ := h
          refine ro_val (d := (some 82)) rfl (.free rfl) rfl (q_load (T := T26) (u := x56) (a := a4) rfl ok27 rfl hx56) ?_
          obtain ⟨w57, hw57, hrw57, h⟩ := st_open h
          refine ro_skip (d := none) rfl (.free rfl) rfl (q_store (T := T26) (u := x56) (a := a8) rfl ok27 rfl rfl hrw57 hw57) ?_
          refine ro_val (d := (some 7)) rfl (.free rfl) rfl (q_assign (v := .bool (false)) rfl rfl) ?_
          refine ro_nil ?_
          refine wp_ret ?_
          obtain ⟨x58, hx58, h⟩ := h
          exact ret_ok rfl (.cons (.cell (T := T26) (u := x58) (a := a8) ok27 rfl hx58) (.cons (.tmp (v := .bool (false)) rfl) .nil)) ⟨(x58, false), rfl, h⟩
        · refine wp_skip ?_
          exact ⟨(r42.2, r50.2), _, arr (upd_step (upd_step (upd_step (upd_step rfl rfl) rfl) rfl) rfl), h⟩
      · refine wp_seq ?_
        refine wp_text [0, 1] rfl ?_
        refine ro_val (d := (some 84)) rfl (.free rfl) rfl (q_eql (a := x16) (b := (2 : Int)) rfl rfl rfl) ?_
        refine ro_val (d := (some 83)) rfl (.free rfl) rfl (q_assign (v := .bool ((x16 == (2 : Int)))) rfl rfl) ?_
        refine ro_nil ?_
        refine wp_if (b := (x16 == (2 : Int))) rfl h (fun hb99 h => ?_) (fun hb99 h => ?_)
        · refine wp_seq ?_
          refine wp_text [0, 1, 2, 3, 4, 5, 6, 7, 8] rfl ?_
          refine ro_val (d := (some 86)) rfl (.free rfl) rfl (q_move (v := .pointer (s_1)) rfl rfl) ?_
          refine ro_val (d := (some 87)) rfl (.free rfl) rfl (q_fieldAddr (a := a6) (off := 2) rfl Try.underlying33 rfl rfl ok2 (by decide) rfl) ?_
          obtain ⟨x60, hx60, h⟩ := h
          refine ro_val (d := (some 88)) rfl (.free rfl) rfl (q_load (T := (tInt .i64)) (u := x60) (a := (a6.add 2)) rfl ok2 rfl hx60) ?_
          refine ro_wp rfl (.free rfl) (wp_cl (d := (some 89)) rfl (q_call (k := 18) (l := [.pointer (s_1), .int .i64 (x60)]) rfl ent18 rfl) h ?_)
          intro r62 w61 h
          refine ro_val (d := (some 85)) rfl (.free rfl) rfl (q_move (v := (tTup2 tSlc (tInt .i64)).enc (r62)) rfl rfl) ?_
          refine ro_val (d := (some 90)) rfl (.free rfl) rfl (q_extract (vs := #[tSlc.enc (r62.1), .int .i64 (r62.2)]) (v := tSlc.enc (r62.1)) rfl rfl rfl) ?_
          refine ro_val (d := (some 91)) rfl (.free rfl) rfl (q_extract (vs := #[tSlc.enc (r62.1), .int .i64 (r62.2)]) (v := .int .i64 (r62.2)) rfl rfl rfl) ?_
          refine ro_val (d := (some 16)) rfl (.free rfl) rfl (q_assign (v := tSlc.enc (r62.1)) rfl rfl) ?_
          refine ro_val (d := (some 17)) rfl (.free rfl) rfl (q_assign (v := .int .i64 (r62.2)) rfl rfl) ?_
          refine ro_nil ?_
          refine wp_seq ?_
          refine wp_text [0, 1, 2, 3, 4, 5, 6, 7, 8] rfl ?_
          obtain ⟨x63, hx63, h⟩ := h
          refine ro_val (d := (some 93)) rfl (.free rfl) rfl (q_load (T := T26) (u := x63) (a := a4) rfl ok27 rfl hx63) ?_
          refine ro_val (d := (some 94)) rfl (.free rfl) rfl (q_fieldAddr (a := a6) (off := 2) rfl Try.underlying33 rfl rfl ok2 (by decide) rfl) ?_
          obtain ⟨x64, hx64, h⟩ := h
          refine ro_val (d := (some 95)) rfl (.free rfl) rfl (q_load (T := (tInt .i64)) (u := x64) (a := (a6.add 2)) rfl ok2 rfl hx64) ?_
          refine ro_wp rfl (.free rfl) (wp_cl (d := (some 96)) rfl (q_call (k := 19) (l := [T26.enc (x63), .int .i64 (x64)]) rfl ent19 rfl) h ?_)
          intro r66 w65 h
          refine ro_val (d := (some 92)) rfl (.free rfl) rfl (q_move (v := (tTup2 tSlc (tInt .i64)).enc (r66)) rfl rfl) ?_
          refine ro_val (d := (some 97)) rfl (.free rfl) rfl (q_extract (vs := #[tSlc.enc (r66.1), .int .i64 (r66.2)]) (v := tSlc.enc (r66.1)) rfl rfl rfl) ?_
          refine ro_val (d := (some 98)) rfl (.free rfl) rfl (q_extract (vs := #[tSlc.enc (r66.1), .int .i64 (r66.2)]) (v := .int .i64 (r66.2)) rfl rfl rfl) ?_
          refine ro_val (d := (some 18)) rfl (.free rfl) rfl (q_assign (v := tSlc.enc (r66.1)) rfl rfl) ?_
          refine ro_val (d := (some 19)) rfl (.free rfl) rfl (q_assign (v := .int .i64 (r66.2)) rfl rfl) ?_
          refine ro_nil ?_
          refine wp_seq ?_
          refine wp_text [0, 1, 2, 3] rfl ?_
          refine ro_val (d := (some 99)) rfl (.free rfl) rfl (q_move (v := .int .i64 (r62.2)) rfl rfl) ?_
          refine ro_val (d := (some 100)) rfl (.free rfl) rfl (q_move (v := .int .i64 (r66.2)) rfl rfl) ?_
          refine ro_val (d := (some 8)) rfl (.free rfl) rfl (q_assign (v := .int .i64 (r62.2)) rfl rfl) ?_
          refine ro_val (d := (some 9)) rfl (.free rfl) rfl (q_assign (v := .int .i64 (r66.2)) rfl rfl) ?_
          refine ro_nil ?_
          refine wp_seq ?_
          refine wp_seq ?_
          refine wp_text [0, 1, 2, 3] rfl ?_
          refine ro_val (d := (some 101)) rfl (.free rfl) rfl (q_move (v := tSlc.enc (r62.1)) rfl rfl) ?_
          refine ro_val (d := (some 102)) rfl (.free rfl) rfl (q_move (v := tSlc.enc (r66.1)) rfl rfl) ?_
          refine ro_wp rfl (.free rfl) (wp_cl (d := (some 103)) rfl (q_call (k := 20) (l := [tSlc.enc (r62.1), tSlc.enc (r66.1)]) rfl ent20 rfl) h ?_)
          intro r68 w67 h
          refine ro_val (d := (some 104)) rfl (.free rfl) rfl (q_not (b := r68) rfl rfl) ?_
          refine ro_nil ?_
          refine wp_if (b := (!r68)) rfl h (fun hb80 h => ?_) (fun hb80 h => ?_)
          · refine wp_seq ?_
            refine wp_text [0, 1, 2] rfl ?_
            obtain ⟨x69, hx69, h⟩ := h
            refine ro_val (d := (some 105)) rfl (.free rfl) rfl (q_load (T := T26) (u := x69) (a := a4) rfl ok27 rfl hx69) ?_
            obtain ⟨w70, hw70, hrw70, h⟩ := st_open h
            refine ro_skip (d := none) rfl (.free rfl) rfl (q_store (T := T26) (u := x69) (a := a8) rfl ok27 rfl rfl hrw70 hw70) ?_
            refine ro_val (d := (some 7)) rfl (.free rfl) rfl (q_assign (v := .bool (false)) rfl rfl) ?_
            refine ro_nil ?_
            refine wp_ret ?_
            obtain ⟨x71, hx71, h⟩ := h
            exact ret_ok rfl (.cons (.cell (T := T26) (u := x71) (a := a8) ok27 rfl hx71) (.cons (.tmp (v := .bool (false)) rfl) .nil)) ⟨(x71, false), rfl, h⟩
          · refine wp_skip ?_
            refine wp_seq ?_
            refine wp_text [0] rfl ?_
            refine ro_val (d := (some 20)) rfl (.free rfl) rfl (q_assign (v := .int .i64 ((0 : Int))) rfl rfl) ?_
            refine ro_nil ?_
            refine wp_block ?_
            refine loop_at (σ := Int) (fr := fun g (s : Int) => upd (upd (upd (upd (upd (upd (g) 4 (.pointer (some a4))) 6 (.pointer (some a8))) 8 (.int .i64 (r62.2))) 9 (.int .i64 (r66.2))) 16 (tSlc.enc (r62.1))) 20 (.int .i64 (s))) (s0 := ((0 : Int))) (upd_step (upd_step (upd_step (upd_step (upd_step (upd_step rfl rfl) rfl) rfl) rfl) rfl) rfl) h ?_
            rintro i_72 g w73 K74 h
            unfold F11_l3 at h
            refine wp_seq ?_
            refine wp_seq ?_
            refine wp_text [0, 1, 2, 3] rfl ?_
            refine ro_val (d := (some 106)) rfl (.free rfl) rfl (q_move (v := .int .i64 (i_72)) rfl rfl) ?_
            refine ro_val (d := (some 107)) rfl (.free rfl) rfl (q_move (v := tSlc.enc (r62.1)) rfl rfl) ?_
            refine ro_val (d := (some 108)) rfl (.free rfl) rfl (q_len (s := r62.1) rfl Try.underlying31 rfl) ?_
            refine ro_val (d := (some 109)) rfl (.free rfl) rfl (q_lss (a := i_72) (b := (r62.1.len : Int)) rfl rfl rfl) ?_
            refine ro_nil ?_
            refine wp_if (b := (decide (i_72 < (r62.1.len : Int)))) rfl h (fun hb79 h => ?_) (fun hb79 h => ?_)
            · refine wp_skip ?_
              refine wp_seq ?_
              refine wp_block ?_
              refine wp_text [0, 1, 2, 3, 4, 5, 6, 7, 8] rfl ?_
              refine ro_val (d := (some 112)) rfl (.free rfl) rfl (q_move (v := tSlc.enc (r62.1)) rfl rfl) ?_
              refine ro_val (d := (some 113)) rfl (.free rfl) rfl (q_move (v := .int .i64 (i_72)) rfl rfl) ?_
              obtain ⟨a75, ha75, h⟩ := h
              refine ro_val (d := (some 114)) rfl (.free rfl) rfl (q_indexAddr (s := r62.1) (i := i_72) rfl Try.underlying31 ok58 rfl rfl ha75) ?_
              refine ro_val (d := (some 115)) rfl (.free rfl) rfl (q_fieldAddr (a := a75) (off := 1) rfl Try.underlying58 rfl rfl ok2 (by decide) rfl) ?_
              obtain ⟨x76, hx76, h⟩ := h
              refine ro_val (d := (some 116)) rfl (.free rfl) rfl (q_load (T := (tInt .i64)) (u := x76) (a := (a75.add 1)) rfl ok2 rfl hx76) ?_
              refine ro_val (d := (some 117)) rfl (.free rfl) rfl (q_add (a := x76) (b := (1 : Int)) rfl rfl rfl) ?_
              obtain ⟨a77, ha77, h⟩ := h
              refine ro_val (d := (some 118)) rfl (.free rfl) rfl (q_indexAddr (s := r62.1) (i := i_72) rfl Try.underlying31 ok58 rfl rfl ha77) ?_
              refine ro_val (d := (some 119)) rfl (.free rfl) rfl (q_fieldAddr (a := a77) (off := 1) rfl Try.underlying58 rfl rfl ok2 (by decide) rfl) ?_
              obtain ⟨w78, hw78, hrw78, h⟩ := st_open h
              refine ro_skip (d := none) rfl (.free rfl) rfl (q_store (T := (tInt .i64)) (u := (IntKind.i64.wrap (x76 + (1 : Int)))) (a := (a77.add 1)) rfl ok2 rfl rfl hrw78 hw78) ?_
              refine ro_nil ?_
              refine wp_text [0, 1, 2] rfl ?_
              refine ro_val (d := (some 110)) rfl (.free rfl) rfl (q_move (v := .int .i64 (i_72)) rfl rfl) ?_
              refine ro_val (d := (some 111)) rfl (.free rfl) rfl (q_add (a := i_72) (b := (1 : Int)) rfl rfl rfl) ?_
              refine ro_val (d := (some 20)) rfl (.free rfl) rfl (q_assign (v := .int .i64 ((IntKind.i64.wrap (i_72 + (1 : Int))))) rfl rfl) ?_
              refine ro_nil ?_
              exact ⟨((IntKind.i64.wrap (i_72 + (1 : Int)))), _, arr (upd_step (upd_step (upd_step (upd_step (upd_step (upd_step rfl rfl) rfl) rfl) rfl) rfl) rfl), h⟩
            · refine wp_exit ?_
              exact ⟨(r62.2, r66.2), _, arr (upd_step (upd_step (upd_step (upd_step rfl rfl) rfl) rfl) rfl), h⟩
        · refine wp_seq ?_
          refine wp_text [0, 1] rfl ?_
          refine ro_val (d := (some 121)) rfl (.free rfl) rfl (q_eql (a := x16) (b := (3 : Int)) rfl rfl rfl) ?_
          refine ro_val (d := (some 120)) rfl (.free rfl) rfl (q_assign (v := .bool ((x16 == (3 : Int)))) rfl rfl) ?_
          refine ro_nil ?_
          refine wp_if (b := (x16 == (3 : Int))) rfl h (fun hb98 h => ?_) (fun hb98 h => ?_)
          · refine wp_seq ?_
            refine wp_text [0, 1, 2, 3, 4] rfl ?_
            refine ro_val (d := (some 122)) rfl (.free rfl) rfl (q_move (v := .pointer (s_1)) rfl rfl) ?_
            refine ro_val (d := (some 123)) rfl (.free rfl) rfl (q_fieldAddr (a := a6) (off := 2) rfl Try.underlying33 rfl rfl ok2 (by decide) rfl) ?_
            obtain ⟨x81, hx81, h⟩ := h
            refine ro_val (d := (some 124)) rfl (.free rfl) rfl (q_load (T := (tInt .i64)) (u := x81) (a := (a6.add 2)) rfl ok2 rfl hx81) ?_
            refine ro_wp rfl (.free rfl) (wp_cl (d := (some 125)) rfl (q_call (k := 26) (l := [.pointer (s_1), .int .i64 (x81)]) rfl ent26 rfl) h ?_)
            intro r83 w82 h
            refine ro_val (d := (some 8)) rfl (.free rfl) rfl (q_assign (v := .int .i64 (r83)) rfl rfl) ?_
            refine ro_nil ?_
            refine wp_text [0, 1, 2, 3, 4, 5, 6, 7, 8] rfl ?_
            obtain ⟨x84, hx84, h⟩ := h
            refine ro_val (d := (some 127)) rfl (.free rfl) rfl (q_load (T := T26) (u := x84) (a := a4) rfl ok27 rfl hx84) ?_
            refine ro_val (d := (some 128)) rfl (.free rfl) rfl (q_fieldAddr (a := a6) (off := 2) rfl Try.underlying33 rfl rfl ok2 (by decide) rfl) ?_
            obtain ⟨x85, hx85, h⟩ := h
            refine ro_val (d := (some 129)) rfl (.free rfl) rfl (q_load (T := (tInt .i64)) (u := x85) (a := (a6.add 2)) rfl ok2 rfl hx85) ?_
            refine ro_wp rfl (.free rfl) (wp_cl (d := (some 130)) rfl (q_call (k := 29) (l := [T26.enc (x84), .int .i64 (x85)]) rfl ent29 rfl) h ?_)
            intro r87 w86 h
            refine ro_val (d := (some 126)) rfl (.free rfl) rfl (q_move (v := (tTup2 T26 (tInt .i64)).enc (r87)) rfl rfl) ?_
            refine ro_val (d := (some 131)) rfl (.free rfl) rfl (q_extract (vs := #[T26.enc (r87.1), .int .i64 (r87.2)]) (v := T26.enc (r87.1)) rfl rfl rfl) ?_
            refine ro_val (d := (some 132)) rfl (.free rfl) rfl (q_extract (vs := #[T26.enc (r87.1), .int .i64 (r87.2)]) (v := .int .i64 (r87.2)) rfl rfl rfl) ?_
            obtain ⟨w88, hw88, hrw88, h⟩ := st_open h
            refine ro_skip (d := none) rfl (.free rfl) rfl (q_store (T := T26) (u := r87.1) (a := a4) rfl ok27 rfl rfl hrw88 hw88) ?_
            refine ro_val (d := (some 9)) rfl (.free rfl) rfl (q_assign (v := .int .i64 (r87.2)) rfl rfl) ?_
            refine ro_nil ?_
            exact ⟨(r83, r87.2), _, arr (upd_step (upd_step (upd_step (upd_step rfl rfl) rfl) rfl) rfl), h⟩
          · refine wp_seq ?_
            refine wp_text [0, 1] rfl ?_
            refine ro_val (d := (some 134)) rfl (.free rfl) rfl (q_eql (a := x16) (b := (4 : Int)) rfl rfl rfl) ?_
            refine ro_val (d := (some 133)) rfl (.free rfl) rfl (q_assign (v := .bool ((x16 == (4 : Int)))) rfl rfl) ?_
            refine ro_nil ?_
            refine wp_if (b := (x16 == (4 : Int))) rfl h (fun hb97 h => ?_) (fun hb97 h => ?_)
            · refine wp_seq ?_
              refine wp_text [0, 1, 2, 3, 4] rfl ?_
              refine ro_val (d := (some 135)) rfl (.free rfl) rfl (q_move (v := .pointer (s_1)) rfl rfl) ?_
              refine ro_val (d := (some 136)) rfl (.free rfl) rfl (q_fieldAddr (a := a6) (off := 2) rfl Try.underlying33 rfl rfl ok2 (by decide) rfl) ?_
              obtain ⟨x89, hx89, h⟩ := h
              refine ro_val (d := (some 137)) rfl (.free rfl) rfl (q_load (T := (tInt .i64)) (u := x89) (a := (a6.add 2)) rfl ok2 rfl hx89) ?_
              refine ro_wp rfl (.free rfl) (wp_cl (d := (some 138)) rfl (q_call (k := 24) (l := [.pointer (s_1), .int .i64 (x89)]) rfl ent24 rfl) h ?_)
              intro r91 w90 h
              refine ro_val (d := (some 8)) rfl (.free rfl) rfl (q_assign (v := .int .i64 (r91)) rfl rfl) ?_
              refine ro_nil ?_
              refine wp_text [0, 1, 2, 3, 4, 5, 6, 7, 8] rfl ?_
              obtain ⟨x92, hx92, h⟩ := h
              refine ro_val (d := (some 140)) rfl (.free rfl) rfl (q_load (T := T26) (u := x92) (a := a4) rfl ok27 rfl hx92) ?_
              refine ro_val (d := (some 141)) rfl (.free rfl) rfl (q_fieldAddr (a := a6) (off := 2) rfl Try.underlying33 rfl rfl ok2 (by decide) rfl) ?_
              obtain ⟨x93, hx93, h⟩ := h
              refine ro_val (d := (some 142)) rfl (.free rfl) rfl (q_load (T := (tInt .i64)) (u := x93) (a := (a6.add 2)) rfl ok2 rfl hx93) ?_
              refine ro_wp rfl (.free rfl) (wp_cl (d := (some 143)) rfl (q_call (k := 30) (l := [T26.enc (x92), .int .i64 (x93)]) rfl ent30 rfl) h ?_)
              intro r95 w94 h
              refine ro_val (d := (some 139)) rfl (.free rfl) rfl (q_move (v := (tTup2 T26 (tInt .i64)).enc (r95)) rfl rfl) ?_
              refine ro_val (d := (some 144)) rfl (.free rfl) rfl (q_extract (vs := #[T26.enc (r95.1), .int .i64 (r95.2)]) (v := T26.enc (r95.1)) rfl rfl rfl) ?_
              refine ro_val (d := (some 145)) rfl (.free rfl) rfl (q_extract (vs := #[T26.enc (r95.1), .int .i64 (r95.2)]) (v := .int .i64 (r95.2)) rfl rfl rfl) ?_
              obtain ⟨w96, hw96, hrw96, h⟩ := st_open h
              refine ro_skip (d := none) rfl (.free rfl) rfl (q_store (T := T26) (u := r95.1) (a := a4) rfl ok27 rfl rfl hrw96 hw96) ?_
              refine ro_val (d := (some 9)) rfl (.free rfl) rfl (q_assign (v := .int .i64 (r95.2)) rfl rfl) ?_
              refine ro_nil ?_
              exact ⟨(r91, r95.2), _, arr (upd_step (upd_step (upd_step (upd_step rfl rfl) rfl) rfl) rfl), h⟩
            · refine wp_skip ?_
              exact ⟨((0 : Int), (0 : Int)), _, arr (upd_step (upd_step (upd_step (upd_step rfl rfl) rfl) rfl) rfl), h⟩

-- moiety/moietylaw12.few
def F12_j1 (a2 : Addr) (a4 : Addr) (w6 : World) (R : S32 → World → Prop) : Prop :=
  ex (RdAt T32 a2 w6) fun x7 =>
  st T32 a4 x7 w6 fun w8 =>
  ex (RdAt T32 a4 w8) fun x9 =>
  R x9 w8
def F12 (o_1 : S32) (w : World) (R : S32 → World → Prop) : Prop :=
  nw 33 T32 o_1 w fun a2 w3 =>
  nw 33 T32 Z32 w3 fun a4 w5 =>
  ex (RdAt tSlc (a2.add 3) w5) fun x10 =>
  if (decide ((x10.len : Int) > (120 : Int))) = true then (
    ex (RdAt tSlc (a2.add 3) w5) fun x11 =>
    ex (Sub x11 2 0 (120 : Int) ((x11).cap : Int)) fun s12 =>
    st tSlc (a2.add 3) s12 w5 fun w13 =>
    F12_j1 a2 a4 w13 R
  ) else (
    F12_j1 a2 a4 w5 R
  )
theorem F12_ok {o_1 : S32} {w : World} {R : S32 → World → Prop} (h : F12 o_1 w R) : cl Try.prog 12 [T32.enc (o_1)] T32 w R := by
  unfold F12 at h
  refine calls_start 12 Try.func12 rfl rfl (Nat.le_of_ble_eq_true rfl) ?_
  refine wp_seq ?_
  refine wp_text [0, 1] rfl ?_
  obtain ⟨a2, w3, ha2, hw3, h⟩ := nw_open h
  refine ro_val (d := (some 1)) rfl (.free rfl) rfl (q_box (u := o_1) rfl ok33 rfl ha2 hw3) ?_
  obtain ⟨a4, w5, ha4, hw5, h⟩ := nw_open h
  refine ro_val (d := (some 2)) rfl (.free rfl) rfl (q_alloc (u := Z32) rfl ok33 inf33 ha4 hw5) ?_
  refine ro_nil ?_
  refine seq_join (σ := Unit) (J := fun (s : Unit) w => F12_j1 a2 a4 w R) (fr := fun g (s : Unit) => upd (upd (g) 1 (.pointer (some a2))) 2 (.pointer (some a4))) ?_ ?_
  · rintro ⟨⟩ g w6 h
    unfold F12_j1 at h
    refine wp_seq ?_
    refine wp_text [0, 1] rfl ?_
    obtain ⟨x7, hx7, h⟩ := h
    refine ro_val (d := (some 11)) rfl (.free rfl) rfl (q_load (T := T32) (u := x7) (a := a2) rfl ok33 rfl hx7) ?_
    obtain ⟨w8, hw8, hrw8, h⟩ := st_open h
    refine ro_skip (d := none) rfl (.free rfl) rfl (q_store (T := T32) (u := x7) (a := a4) rfl ok33 rfl rfl hrw8 hw8) ?_
    refine ro_nil ?_
    refine wp_ret ?_
    obtain ⟨x9, hx9, h⟩ := h
    exact ret_ok rfl (.cons (.cell (T := T32) (u := x9) (a := a4) ok33 rfl hx9) .nil) ⟨x9, rfl, h⟩
  · refine wp_seq ?_
    refine wp_text [0, 1, 2, 3] rfl ?_
    refine ro_val (d := (some 3)) rfl (.free rfl) rfl (q_fieldAddr (a := a2) (off := 3) rfl Try.underlying33 rfl rfl ok31 (by decide) rfl) ?_
    obtain ⟨x10, hx10, h⟩ := h
    refine ro_val (d := (some 4)) rfl (.free rfl) rfl (q_load (T := tSlc) (u := x10) (a := (a2.add 3)) rfl ok31 rfl hx10) ?_
    refine ro_val (d := (some 5)) rfl (.free rfl) rfl (q_len (s := x10) rfl Try.underlying31 rfl) ?_
    refine ro_val (d := (some 6)) rfl (.free rfl) rfl (q_gtr (a := (x10.len : Int)) (b := (120 : Int)) rfl rfl rfl) ?_
    refine ro_nil ?_
    refine wp_if (b := (decide ((x10.len : Int) > (120 : Int)))) rfl h (fun hb14 h => ?_) (fun hb14 h => ?_)
    · refine wp_text [0, 1, 2, 3, 4] rfl ?_
      refine ro_val (d := (some 7)) rfl (.free rfl) rfl (q_fieldAddr (a := a2) (off := 3) rfl Try.underlying33 rfl rfl ok31 (by decide) rfl) ?_
      obtain ⟨x11, hx11, h⟩ := h
      refine ro_val (d := (some 8)) rfl (.free rfl) rfl (q_load (T := tSlc) (u := x11) (a := (a2.add 3)) rfl ok31 rfl hx11) ?_
      obtain ⟨s12, hs12, h⟩ := h
      refine ro_val (d := (some 9)) rfl (.free rfl) rfl (q_sliceH (s := x11) (h := (120 : Int)) rfl Try.underlying31 ok58 rfl rfl hs12) ?_
      refine ro_val (d := (some 10)) rfl (.free rfl) rfl (q_fieldAddr (a := a2) (off := 3) rfl Try.underlying33 rfl rfl ok31 (by decide) rfl) ?_
      obtain ⟨w13, hw13, hrw13, h⟩ := st_open h
      refine ro_skip (d := none) rfl (.free rfl) rfl (q_store (T := tSlc) (u := s12) (a := (a2.add 3)) rfl ok31 rfl rfl hrw13 hw13) ?_
      refine ro_nil ?_
      exact ⟨(), _, arr (upd_step (upd_step rfl rfl) rfl), h⟩
    · refine wp_skip ?_
      exact ⟨(), _, arr (upd_step (upd_step rfl rfl) rfl), h⟩

-- (*moiety/store.Store).Last
def F13 (s_1 : (Option Addr)) (key_2 : Int) (w : World) (R : (S35 × Bool) → World → Prop) : Prop :=
  nw 36 T35 Z35 w fun a3 w4 =>
  ex (NC s_1) fun a5 =>
  ex (RdAt tMap (a5.add 0) w4) fun x6 =>
  ex (MapGet tPtr .i64 x6 key_2 w4) fun m7 =>
  if (!(((m7.getD (none : Option Addr), m7.isSome)).2)) = true then (
    st T35 a3 (⟨(0 : Int), (0 : Int)⟩ : S35) w4 fun w8 =>
    ex (RdAt T35 a3 w8) fun x9 =>
    R (x9, false) w8
  ) else (
    cl Try.prog 31 [.pointer (((m7.getD (none : Option Addr), m7.isSome)).1)] (tTup2 T35 tBool) w4 fun r11 w10 =>
    st T35 a3 r11.1 w10 fun w12 =>
    ex (RdAt T35 a3 w12) fun x13 =>
    R (x13, r11.2) w12
  )
theorem F13_ok {s_1 : (Option Addr)} {key_2 : Int} {w : World} {R : (S35 × Bool) → World → Prop} (h : F13 s_1 key_2 w R) : cl Try.prog 13 [.pointer (s_1), .int .i64 (key_2)] (tTup2 T35 tBool) w R := by
  unfold F13 at h
  refine calls_start 24 Try.func13 rfl rfl (Nat.le_of_ble_eq_true rfl) ?_
  refine wp_seq ?_
  refine wp_text [0, 1] rfl ?_
  obtain ⟨a3, w4, ha3, hw4, h⟩ := nw_open h
  refine ro_val (d := (some 4)) rfl (.free rfl) rfl (q_alloc (u := Z35) rfl ok36 inf36 ha3 hw4) ?_
  refine ro_val (d := (some 5)) rfl (.free rfl) rfl (q_assign (v := .bool (false)) rfl rfl) ?_
  refine ro_nil ?_
  refine wp_seq ?_
  refine wp_text [0, 1, 2, 3, 4, 5, 6, 7, 8, 9, 10] rfl ?_
  refine ro_val (d := (some 9)) rfl (.free rfl) rfl (q_move (v := .pointer (s_1)) rfl rfl) ?_
  obtain ⟨a5, ha5, h⟩ := h
  refine ro_val (d := (some 10)) rfl (.free rfl) rfl (q_nilCheck (a := a5) rfl (congrArg Value.pointer ha5)) ?_
  refine ro_val (d := (some 11)) rfl (.free rfl) rfl (q_fieldAddr (a := a5) (off := 0) rfl Try.underlying67 rfl rfl ok65 (by decide) rfl) ?_
  obtain ⟨x6, hx6, h⟩ := h
  refine ro_val (d := (some 12)) rfl (.free rfl) rfl (q_load (T := tMap) (u := x6) (a := (a5.add 0)) rfl ok65 rfl hx6) ?_
  refine ro_val (d := (some 13)) rfl (.free rfl) rfl (q_move (v := .int .i64 (key_2)) rfl rfl) ?_
  obtain ⟨m7, hm7, h⟩ := h
  refine ro_val (d := (some 14)) rfl (.free rfl) rfl (q_lookup2 (T := tPtr) (r := x6) (key := key_2) (u := m7) (z := (none : Option Addr)) rfl Try.underlying65 Try.underlying3 (inf72) rfl rfl hm7) ?_
  refine ro_val (d := (some 8)) rfl (.free rfl) rfl (q_move (v := (tTup2 tPtr tBool).enc (((m7.getD (none : Option Addr), m7.isSome)))) rfl rfl) ?_
  refine ro_val (d := (some 15)) rfl (.free rfl) rfl (q_extract (vs := #[.pointer (((m7.getD (none : Option Addr), m7.isSome)).1), .bool (((m7.getD (none : Option Addr), m7.isSome)).2)]) (v := .pointer (((m7.getD (none : Option Addr), m7.isSome)).1)) rfl rfl rfl) ?_
  refine ro_val (d := (some 16)) rfl (.free rfl) rfl (q_extract (vs := #[.pointer (((m7.getD (none : Option Addr), m7.isSome)).1), .bool (((m7.getD (none : Option Addr), m7.isSome)).2)]) (v := .bool (((m7.getD (none : Option Addr), m7.isSome)).2)) rfl rfl rfl) ?_
  refine ro_val (d := (some 6)) rfl (.free rfl) rfl (q_assign (v := .pointer (((m7.getD (none : Option Addr), m7.isSome)).1)) rfl rfl) ?_
  refine ro_val (d := (some 7)) rfl (.free rfl) rfl (q_assign (v := .bool (((m7.getD (none : Option Addr), m7.isSome)).2)) rfl rfl) ?_
  refine ro_nil ?_
  refine wp_seq ?_
  refine wp_seq ?_
  refine wp_text [0, 1] rfl ?_
  refine ro_val (d := (some 17)) rfl (.free rfl) rfl (q_move (v := .bool (((m7.getD (none : Option Addr), m7.isSome)).2)) rfl rfl) ?_
  refine ro_val (d := (some 18)) rfl (.free rfl) rfl (q_not (b := ((m7.getD (none : Option Addr), m7.isSome)).2) rfl rfl) ?_
  refine ro_nil ?_
  refine wp_if (b := (!(((m7.getD (none : Option Addr), m7.isSome)).2))) rfl h (fun hb14 h => ?_) (fun hb14 h => ?_)
  · refine wp_seq ?_
    refine wp_text [0, 1, 2] rfl ?_
    refine ro_val (d := (some 19)) rfl (.free rfl) rfl (q_build36_  rfl ) ?_
    obtain ⟨w8, hw8, hrw8, h⟩ := st_open h
    refine ro_skip (d := none) rfl (.free rfl) rfl (q_store (T := T35) (u := (⟨(0 : Int), (0 : Int)⟩ : S35)) (a := a3) rfl ok36 rfl rfl hrw8 hw8) ?_
    refine ro_val (d := (some 5)) rfl (.free rfl) rfl (q_assign (v := .bool (false)) rfl rfl) ?_
    refine ro_nil ?_
    refine wp_ret ?_
    obtain ⟨x9, hx9, h⟩ := h
    exact ret_ok rfl (.cons (.cell (T := T35) (u := x9) (a := a3) ok36 rfl hx9) (.cons (.tmp (v := .bool (false)) rfl) .nil)) ⟨(x9, false), rfl, h⟩
  · refine wp_skip ?_
    refine wp_seq ?_
    refine wp_text [0, 1, 2, 3, 4, 5] rfl ?_
    refine ro_val (d := (some 20)) rfl (.free rfl) rfl (q_move (v := .pointer (((m7.getD (none : Option Addr), m7.isSome)).1)) rfl rfl) ?_
    refine ro_wp rfl (.free rfl) (wp_cl (d := (some 21)) rfl (q_call (k := 31) (l := [.pointer (((m7.getD (none : Option Addr), m7.isSome)).1)]) rfl ent31 rfl) h ?_)
    intro r11 w10 h
    refine ro_val (d := (some 22)) rfl (.free rfl) rfl (q_extract (vs := #[T35.enc (r11.1), .bool (r11.2)]) (v := T35.enc (r11.1)) rfl rfl rfl) ?_
    refine ro_val (d := (some 23)) rfl (.free rfl) rfl (q_extract (vs := #[T35.enc (r11.1), .bool (r11.2)]) (v := .bool (r11.2)) rfl rfl rfl) ?_
    obtain ⟨w12, hw12, hrw12, h⟩ := st_open h
    refine ro_skip (d := none) rfl (.free rfl) rfl (q_store (T := T35) (u := r11.1) (a := a3) rfl ok36 rfl rfl hrw12 hw12) ?_
    refine ro_val (d := (some 5)) rfl (.free rfl) rfl (q_assign (v := .bool (r11.2)) rfl rfl) ?_
    refine ro_nil ?_
    refine wp_ret ?_
    obtain ⟨x13, hx13, h⟩ := h
    exact ret_ok rfl (.cons (.cell (T := T35) (u := x13) (a := a3) ok36 rfl hx13) (.cons (.tmp (v := .bool (r11.2)) rfl) .nil)) ⟨(x13, r11.2), rfl, h⟩

-- moiety/moietyref12.Last
def F14_j2 (i_11 : Int) (ok_15 : Bool) (w16 : World) (K13 : Bool × Int → World → Prop) (R : (S35 × Bool) → World → Prop) : Prop :=
  K13 (ok_15, (IntKind.i64.wrap (i_11 + (1 : Int)))) w16
def F14_l1 (key_2 : Int) (a3 : Addr) (a5 : Addr) (a7 : Addr) (ok_10 : Bool) (i_11 : Int) (w12 : World) (K13 : Bool × Int → World → Prop) (R : (S35 × Bool) → World → Prop) : Prop :=
  ex (RdAt tSlc (a3.add 0) w12) fun x14 =>
  if (decide (i_11 < (x14.len : Int))) = true then (
    ex (RdAt tSlc (a3.add 0) w12) fun x17 =>
    ex (IxA x17 3 i_11) fun a18 =>
    ex (RdAt (tInt .i64) ((a18.add 1).add 0) w12) fun x19 =>
    if (x19 == key_2) = true then (
      dr w12 fun w20 =>
      ex (RdAt tSlc (a3.add 0) w20) fun x21 =>
      ex (IxA x21 3 i_11) fun a22 =>
      ex (RdAt (tInt .i64) (a22.add 0) w20) fun x23 =>
      ex (RdAt tSlc (a3.add 0) w20) fun x24 =>
      ex (IxA x24 3 i_11) fun a25 =>
      ex (RdAt (tInt .i64) ((a25.add 1).add 1) w20) fun x26 =>
      st T35 a7 (⟨x23, x26⟩ : S35) w20 fun w27 =>
      F14_j2 i_11 true w27 K13 R
    ) else (
      F14_j2 i_11 ok_10 w12 K13 R
    )
  ) else (
    ex (RdAt T35 a7 w12) fun x29 =>
    st T35 a5 x29 w12 fun w30 =>
    ex (RdAt T35 a5 w30) fun x31 =>
    R (x31, ok_10) w30
  )
def F14 (s_1 : S26) (key_2 : Int) (w : World) (R : (S35 × Bool) → World → Prop) : Prop :=
  nw 27 T26 s_1 w fun a3 w4 =>
  nw 36 T35 Z35 w4 fun a5 w6 =>
  nw 36 T35 Z35 w6 fun a7 w8 =>
  st T35 a7 (⟨(0 : Int), (0 : Int)⟩ : S35) w8 fun w9 =>
  lp (fun (s : Bool × Int) w K => F14_l1 key_2 a3 a5 a7 s.1 s.2 w K R) (false, (0 : Int)) w9
theorem F14_ok {s_1 : S26} {key_2 : Int} {w : World} {R : (S35 × Bool) → World → Prop} (h : F14 s_1 key_2 w R) : cl Try.prog 14 [T26.enc (s_1), .int .i64 (key_2)] (tTup2 T35 tBool) w R := by
  unfold F14 at h
  refine calls_start 42 Try.func14 rfl rfl (Nat.le_of_ble_eq_true rfl) ?_
  refine wp_seq ?_
  refine wp_text [0, 1, 2] rfl ?_
  obtain ⟨a3, w4, ha3, hw4, h⟩ := nw_open h
  refine ro_val (d := (some 2)) rfl (.free rfl) rfl (q_box (u := s_1) rfl ok27 rfl ha3 hw4) ?_
  obtain ⟨a5, w6, ha5, hw6, h⟩ := nw_open h
  refine ro_val (d := (some 4)) rfl (.free rfl) rfl (q_alloc (u := Z35) rfl ok36 inf36 ha5 hw6) ?_
  refine ro_val (d := (some 5)) rfl (.free rfl) rfl (q_assign (v := .bool (false)) rfl rfl) ?_
  refine ro_nil ?_
  refine wp_seq ?_
  refine wp_text [0, 1, 2, 3] rfl ?_
  refine ro_val (d := (some 9)) rfl (.free rfl) rfl (q_build36_  rfl ) ?_
  obtain ⟨a7, w8, ha7, hw8, h⟩ := nw_open h
  refine ro_val (d := (some 6)) rfl (.free rfl) rfl (q_alloc (u := Z35) rfl ok36 inf36 ha7 hw8) ?_
  obtain ⟨w9, hw9, hrw9, h⟩ := st_open h
  refine ro_skip (d := none) rfl (.free rfl) rfl (q_store (T := T35) (u := (⟨(0 : Int), (0 : Int)⟩ : S35)) (a := a7) rfl ok36 rfl rfl hrw9 hw9) ?_
  refine ro_val (d := (some 7)) rfl (.free rfl) rfl (q_assign (v := .bool (false)) rfl rfl) ?_
  refine ro_nil ?_
  refine wp_seq ?_
  refine wp_seq ?_
  refine wp_text [0] rfl ?_
  refine ro_val (d := (some 8)) rfl (.free rfl) rfl (q_assign (v := .int .i64 ((0 : Int))) rfl rfl) ?_
  refine ro_nil ?_
  refine wp_block ?_
  refine loop_at (σ := Bool × Int) (fr := fun g (s : Bool × Int) => upd (upd (upd (upd (upd (upd (g) 1 (.int .i64 (key_2))) 2 (.pointer (some a3))) 4 (.pointer (some a5))) 6 (.pointer (some a7))) 7 (.bool (s.1))) 8 (.int .i64 (s.2))) (s0 := (false, (0 : Int))) (upd_step (upd_step (upd_step (upd_step (upd_step (upd_step rfl rfl) rfl) rfl) rfl) rfl) rfl) h ?_
  rintro ⟨ok_10, i_11⟩ g w12 K13 h
  unfold F14_l1 at h
  refine wp_seq ?_
  refine wp_seq ?_
  refine wp_text [0, 1, 2, 3, 4] rfl ?_
  refine ro_val (d := (some 10)) rfl (.free rfl) rfl (q_move (v := .int .i64 (i_11)) rfl rfl) ?_
  refine ro_val (d := (some 11)) rfl (.free rfl) rfl (q_fieldAddr (a := a3) (off := 0) rfl Try.underlying27 rfl rfl ok25 (by decide) rfl) ?_
  obtain ⟨x14, hx14, h⟩ := h
  refine ro_val (d := (some 12)) rfl (.free rfl) rfl (q_load (T := tSlc) (u := x14) (a := (a3.add 0)) rfl ok25 rfl hx14) ?_
  refine ro_val (d := (some 13)) rfl (.free rfl) rfl (q_len (s := x14) rfl Try.underlying25 rfl) ?_
  refine ro_val (d := (some 14)) rfl (.free rfl) rfl (q_lss (a := i_11) (b := (x14.len : Int)) rfl rfl rfl) ?_
  refine ro_nil ?_
  refine wp_if (b := (decide (i_11 < (x14.len : Int)))) rfl h (fun hb32 h => ?_) (fun hb32 h => ?_)
  · refine wp_skip ?_
    refine seq_join (σ := Bool) (J := fun (s : Bool) w => F14_j2 i_11 s w K13 R) (fr := fun g (s : Bool) => upd (upd (upd (upd (upd (upd (g) 1 (.int .i64 (key_2))) 2 (.pointer (some a3))) 4 (.pointer (some a5))) 6 (.pointer (some a7))) 8 (.int .i64 (i_11))) 7 (.bool (s))) ?_ ?_
    · rintro ok_15 g w16 h
      unfold F14_j2 at h
      refine wp_text [0, 1, 2] rfl ?_
      refine ro_val (d := (some 15)) rfl (.free rfl) rfl (q_move (v := .int .i64 (i_11)) rfl rfl) ?_
      refine ro_val (d := (some 16)) rfl (.free rfl) rfl (q_add (a := i_11) (b := (1 : Int)) rfl rfl rfl) ?_
      refine ro_val (d := (some 8)) rfl (.free rfl) rfl (q_assign (v := .int .i64 ((IntKind.i64.wrap (i_11 + (1 : Int))))) rfl rfl) ?_
      refine ro_nil ?_
      exact ⟨(ok_15, (IntKind.i64.wrap (i_11 + (1 : Int)))), _, arr (upd_step (upd_step (upd_step (upd_step (upd_step (upd_step rfl rfl) rfl) rfl) rfl) rfl) rfl), h⟩
    · refine wp_block ?_
      refine wp_seq ?_
      refine wp_text [0, 1, 2, 3, 4, 5, 6, 7, 8] rfl ?_
      refine ro_val (d := (some 17)) rfl (.free rfl) rfl (q_fieldAddr (a := a3) (off := 0) rfl Try.underlying27 rfl rfl ok25 (by decide) rfl) ?_
      obtain ⟨x17, hx17, h⟩ := h
      refine ro_val (d := (some 18)) rfl (.free rfl) rfl (q_load (T := tSlc) (u := x17) (a := (a3.add 0)) rfl ok25 rfl hx17) ?_
      refine ro_val (d := (some 19)) rfl (.free rfl) rfl (q_move (v := .int .i64 (i_11)) rfl rfl) ?_
      obtain ⟨a18, ha18, h⟩ := h
      refine ro_val (d := (some 20)) rfl (.free rfl) rfl (q_indexAddr (s := x17) (i := i_11) rfl Try.underlying25 ok76 rfl rfl ha18) ?_
      refine ro_val (d := (some 21)) rfl (.free rfl) rfl (q_fieldAddr (a := a18) (off := 1) rfl Try.underlying76 rfl rfl ok58 (by decide) rfl) ?_
      refine ro_val (d := (some 22)) rfl (.free rfl) rfl (q_fieldAddr (a := (a18.add 1)) (off := 0) rfl Try.underlying58 rfl rfl ok3 (by decide) rfl) ?_
      obtain ⟨x19, hx19, h⟩ := h
      refine ro_val (d := (some 23)) rfl (.free rfl) rfl (q_load (T := (tInt .i64)) (u := x19) (a := ((a18.add 1).add 0)) rfl ok3 rfl hx19) ?_
      refine ro_val (d := (some 24)) rfl (.free rfl) rfl (q_move (v := .int .i64 (key_2)) rfl rfl) ?_
      refine ro_val (d := (some 25)) rfl (.free rfl) rfl (q_eql (a := x19) (b := key_2) rfl rfl rfl) ?_
      refine ro_nil ?_
      refine wp_if (b := (x19 == key_2)) rfl h (fun hb28 h => ?_) (fun hb28 h => ?_)
      · obtain ⟨w20, hw20, h⟩ := dr_open h
        refine wp_drawn 16 mixed rfl (by kernel_rfl) (by intro c a d v w h; cases d <;> exact h) hw20 (fun hD => ?_)
        refine rd_pure (i := 0) (d := (some 26)) hD (by kernel_rfl) (by kernel_rfl) rfl (.free rfl) rfl (fun _ => q_fieldAddr (a := a3) (off := 0) rfl Try.underlying27 rfl rfl ok25 (by decide) rfl) ?_
        refine rd_pure (i := 2) (d := (some 28)) hD (by kernel_rfl) (by kernel_rfl) rfl (.free rfl) rfl (fun _ => q_move (v := .int .i64 (i_11)) rfl rfl) ?_
        refine rd_pure (i := 6) (d := (some 32)) hD (by kernel_rfl) (by kernel_rfl) rfl (.free rfl) rfl (fun _ => q_fieldAddr (a := a3) (off := 0) rfl Try.underlying27 rfl rfl ok25 (by decide) rfl) ?_
        refine rd_pure (i := 8) (d := (some 34)) hD (by kernel_rfl) (by kernel_rfl) rfl (.free rfl) rfl (fun _ => q_move (v := .int .i64 (i_11)) rfl rfl) ?_
        obtain ⟨x21, hx21, h⟩ := h
        refine rd_read (i := 1) (d := (some 27)) (fun W => (RdAt tSlc (a3.add 0) W) x21) hD (by kernel_rfl) (by kernel_rfl) rfl (.free rfl) rfl (fun W hr => q_load (T := tSlc) (u := x21) (a := (a3.add 0)) rfl ok25 rfl hr) hx21 ?_
        obtain ⟨a22, ha22, h⟩ := h
        refine rd_pure (i := 3) (d := (some 29)) hD (by kernel_rfl) (by kernel_rfl) rfl (.free rfl) rfl (fun _ => q_indexAddr (s := x21) (i := i_11) rfl Try.underlying25 ok76 rfl rfl ha22) ?_
        refine rd_pure (i := 4) (d := (some 30)) hD (by kernel_rfl) (by kernel_rfl) rfl (.free rfl) rfl (fun _ => q_fieldAddr (a := a22) (off := 0) rfl Try.underlying76 rfl rfl ok2 (by decide) rfl) ?_
        obtain ⟨x23, hx23, h⟩ := h
        refine rd_read (i := 5) (d := (some 31)) (fun W => (RdAt (tInt .i64) (a22.add 0) W) x23) hD (by kernel_rfl) (by kernel_rfl) rfl (.free rfl) rfl (fun W hr => q_load (T := (tInt .i64)) (u := x23) (a := (a22.add 0)) rfl ok2 rfl hr) hx23 ?_
        obtain ⟨x24, hx24, h⟩ := h
        refine rd_read (i := 7) (d := (some 33)) (fun W => (RdAt tSlc (a3.add 0) W) x24) hD (by kernel_rfl) (by kernel_rfl) rfl (.free rfl) rfl (fun W hr => q_load (T := tSlc) (u := x24) (a := (a3.add 0)) rfl ok25 rfl hr) hx24 ?_
        obtain ⟨a25, ha25, h⟩ := h
        refine rd_pure (i := 9) (d := (some 35)) hD (by kernel_rfl) (by kernel_rfl) rfl (.free rfl) rfl (fun _ => q_indexAddr (s := x24) (i := i_11) rfl Try.underlying25 ok76 rfl rfl ha25) ?_
        refine rd_pure (i := 10) (d := (some 36)) hD (by kernel_rfl) (by kernel_rfl) rfl (.free rfl) rfl (fun _ => q_fieldAddr (a := a25) (off := 1) rfl Try.underlying76 rfl rfl ok58 (by decide) rfl) ?_
        refine rd_pure (i := 11) (d := (some 37)) hD (by kernel_rfl) (by kernel_rfl) rfl (.free rfl) rfl (fun _ => q_fieldAddr (a := (a25.add 1)) (off := 1) rfl Try.underlying58 rfl rfl ok2 (by decide) rfl) ?_
        obtain ⟨x26, hx26, h⟩ := h
        refine rd_read (i := 12) (d := (some 38)) (fun W => (RdAt (tInt .i64) ((a25.add 1).add 1) W) x26) hD (by kernel_rfl) (by kernel_rfl) rfl (.free rfl) rfl (fun W hr => q_load (T := (tInt .i64)) (u := x26) (a := ((a25.add 1).add 1)) rfl ok2 rfl hr) hx26 ?_
        refine rd_pure (i := 13) (d := (some 39)) hD (by kernel_rfl) (by kernel_rfl) rfl (.free rfl) rfl (fun _ => q_build36_0_1 (v0 := x23) (v1 := x26) rfl rfl rfl) ?_
        refine rd_one (i := 14) (by kernel_rfl) ?_
        obtain ⟨w27, hw27, hrw27, h⟩ := st_open h
        refine po_skip (d := none) rfl (.free rfl) rfl (q_store (T := T35) (u := (⟨x23, x26⟩ : S35)) (a := a7) rfl ok36 rfl rfl hrw27 hw27) ⟨(hk_wait (by kernel_rfl) (hk_wait (by kernel_rfl) (hk_wait (by kernel_rfl) (hk_wait (by kernel_rfl) hk_nil)))), ?_⟩
        refine rd_pure (i := 15) (d := (some 7)) hD (by kernel_rfl) (by kernel_rfl) rfl (.free rfl) rfl (fun _ => q_assign (v := .bool (true)) rfl rfl) ?_
        refine rd_nil (by kernel_rfl) ?_
        exact ⟨(true), _, arr (upd_step (upd_step (upd_step (upd_step (upd_step (upd_step rfl rfl) rfl) rfl) rfl) rfl) rfl), h⟩
      · refine wp_skip ?_
        exact ⟨(ok_10), _, arr (upd_step (upd_step (upd_step (upd_step (upd_step (upd_step rfl rfl) rfl) rfl) rfl) rfl) rfl), h⟩
  · refine wp_exit ?_
    refine wp_seq ?_
    refine wp_text [0, 1, 2, 3] rfl ?_
    obtain ⟨x29, hx29, h⟩ := h
    refine ro_val (d := (some 40)) rfl (.free rfl) rfl (q_load (T := T35) (u := x29) (a := a7) rfl ok36 rfl hx29) ?_
    refine ro_val (d := (some 41)) rfl (.free rfl) rfl (q_move (v := .bool (ok_10)) rfl rfl) ?_
    obtain ⟨w30, hw30, hrw30, h⟩ := st_open h
    refine ro_skip (d := none) rfl (.free rfl) rfl (q_store (T := T35) (u := x29) (a := a5) rfl ok36 rfl rfl hrw30 hw30) ?_
    refine ro_val (d := (some 5)) rfl (.free rfl) rfl (q_assign (v := .bool (ok_10)) rfl rfl) ?_
    refine ro_nil ?_
    refine wp_ret ?_
    obtain ⟨x31, hx31, h⟩ := h
    exact ret_ok rfl (.cons (.cell (T := T35) (u := x31) (a := a5) ok36 rfl hx31) (.cons (.tmp (v := .bool (ok_10)) rfl) .nil)) ⟨(x31, ok_10), rfl, h⟩

-- (*moiety/store.Store).Closed
def F15 (s_1 : (Option Addr)) (w : World) (R : Int → World → Prop) : Prop :=
  ex (NC s_1) fun a2 =>
  ex (RdAt (tInt .i64) (a2.add 1) w) fun x3 =>
  R x3 w
theorem F15_ok {s_1 : (Option Addr)} {w : World} {R : Int → World → Prop} (h : F15 s_1 w R) : cl Try.prog 15 [.pointer (s_1)] (tInt .i64) w R := by
  unfold F15 at h
  refine calls_start 7 Try.func15 rfl rfl (Nat.le_of_ble_eq_true rfl) ?_
  refine wp_seq ?_
  refine wp_text [0] rfl ?_
  refine ro_val (d := (some 2)) rfl (.free rfl) rfl (q_assign (v := .int .i64 ((0 : Int))) rfl rfl) ?_
  refine ro_nil ?_
  refine wp_seq ?_
  refine wp_text [0, 1, 2, 3, 4] rfl ?_
  refine ro_val (d := (some 3)) rfl (.free rfl) rfl (q_move (v := .pointer (s_1)) rfl rfl) ?_
  obtain ⟨a2, ha2, h⟩ := h
  refine ro_val (d := (some 4)) rfl (.free rfl) rfl (q_nilCheck (a := a2) rfl (congrArg Value.pointer ha2)) ?_
  refine ro_val (d := (some 5)) rfl (.free rfl) rfl (q_fieldAddr (a := a2) (off := 1) rfl Try.underlying67 rfl rfl ok2 (by decide) rfl) ?_
  obtain ⟨x3, hx3, h⟩ := h
  refine ro_val (d := (some 6)) rfl (.free rfl) rfl (q_load (T := (tInt .i64)) (u := x3) (a := (a2.add 1)) rfl ok2 rfl hx3) ?_
  refine ro_val (d := (some 2)) rfl (.free rfl) rfl (q_assign (v := .int .i64 (x3)) rfl rfl) ?_
  refine ro_nil ?_
  refine wp_ret ?_
  exact ret_ok rfl (.cons (.tmp (v := .int .i64 (x3)) rfl) .nil) ⟨x3, rfl, h⟩

end Go.Proofs.Ytdgdkbfigndndaa.Cf
