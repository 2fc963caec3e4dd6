/- Characteristic formulae of Go functions, and that they are. Printed by gen.py (own tool). -/
import Derived.Test.YtpflfnaflacfgaaTy
namespace Go.Proofs.Ytpflfnaflacfgaa.Cf
open Go
set_option maxRecDepth 100000
set_option maxHeartbeats 1000000
set_option linter.unusedVariables false
set_option linter.unusedSimpArgs false

-- moiety/moietylaw09.does
def F20_j1 (a4 : Addr) (a8 : Addr) (e_10 : Int) (f_11 : Int) (w12 : World) (R : (S48 × Bool) → World → Prop) : Prop :=
  ex (RdAt T48 a4 w12) fun x13 =>
  st T48 a8 x13 w12 fun w14 =>
  ex (RdAt T48 a8 w14) fun x15 =>
  R (x15, (e_10 == f_11)) w14
def F20 (n_1 : (Option Addr)) (m_2 : S48) (o_3 : S28) (w : World) (R : (S48 × Bool) → World → Prop) : Prop :=
  nw 49 T48 m_2 w fun a4 w5 =>
  nw 29 T28 o_3 w5 fun a6 w7 =>
  nw 49 T48 Z48 w7 fun a8 w9 =>
  ex (RdAt (tInt .i64) (a6.add 0) w9) fun x16 =>
  if (x16 == (0 : Int)) = true then (
    ex (RdAt (tInt .i64) (a6.add 1) w9) fun x17 =>
    ex (RdAt (tInt .i64) (a6.add 2) w9) fun x18 =>
    ex (RdAt tStr (a6.add 3) w9) fun x19 =>
    cl Try.prog 11 [.pointer (n_1), .int .i64 (x17), .int .i64 (x18), .string ⟨(x19).toArray⟩] (tTup2 (tInt .i64) (tInt .i64)) w9 fun r21 w20 =>
    ex (RdAt T48 a4 w20) fun x22 =>
    ex (RdAt (tInt .i64) (a6.add 1) w20) fun x23 =>
    ex (RdAt (tInt .i64) (a6.add 2) w20) fun x24 =>
    ex (RdAt tStr (a6.add 3) w20) fun x25 =>
    cl Try.prog 36 [T48.enc (x22), .int .i64 (x23), .int .i64 (x24), .string ⟨(x25).toArray⟩] (tTup3 T48 (tInt .i64) (tInt .i64)) w20 fun r27 w26 =>
    nw 49 T48 Z48 w26 fun a28 w29 =>
    st T48 a28 r27.1 w29 fun w30 =>
    ex (RdAt T48 a28 w30) fun x31 =>
    st T48 a4 x31 w30 fun w32 =>
    if (r21.1 != r27.2.1) = true then (
      ex (RdAt T48 a4 w32) fun x33 =>
      st T48 a8 x33 w32 fun w34 =>
      ex (RdAt T48 a8 w34) fun x35 =>
      R (x35, false) w34
    ) else (
      F20_j1 a4 a8 r21.2 r27.2.2 w32 R
    )
  ) else (
    if (x16 == (1 : Int)) = true then (
      ex (RdAt (tInt .i64) (a6.add 1) w9) fun x37 =>
      cl Try.prog 14 [.pointer (n_1), .int .i64 (x37)] (tTup2 T35 (tInt .i64)) w9 fun r39 w38 =>
      nw 36 T35 Z35 w38 fun a40 w41 =>
      st T35 a40 r39.1 w41 fun w42 =>
      ex (RdAt T48 a4 w42) fun x43 =>
      ex (RdAt (tInt .i64) (a6.add 1) w42) fun x44 =>
      cl Try.prog 37 [T48.enc (x43), .int .i64 (x44)] (tTup3 T48 T35 (tInt .i64)) w42 fun r46 w45 =>
      nw 49 T48 Z48 w45 fun a47 w48 =>
      nw 75 T35 Z35 w48 fun a49 w50 =>
      st T48 a47 r46.1 w50 fun w51 =>
      st T35 a49 r46.2.1 w51 fun w52 =>
      ex (RdAt T48 a47 w52) fun x53 =>
      st T48 a4 x53 w52 fun w54 =>
      ex (RdAt T35 a40 w54) fun x55 =>
      nwS 36 T35 [x55] w54 fun a56 w57 =>
      ex (RdAt T35 a49 w57) fun x58 =>
      nwS 75 T35 [x58] w57 fun a59 w60 =>
      cl Try.prog 21 [tSlc.enc ((⟨some a56, 1, 1⟩ : Slc)), tSlc.enc ((⟨some a59, 1, 1⟩ : Slc))] tBool w60 fun r62 w61 =>
      if (!r62) = true then (
        ex (RdAt T48 a4 w61) fun x63 =>
        st T48 a8 x63 w61 fun w64 =>
        ex (RdAt T48 a8 w64) fun x65 =>
        R (x65, false) w64
      ) else (
        F20_j1 a4 a8 r39.2 r46.2.2 w61 R
      )
    ) else (
      if (x16 == (2 : Int)) = true then (
        ex (RdAt (tInt .i64) (a6.add 1) w9) fun x67 =>
        cl Try.prog 16 [.pointer (n_1), .int .i64 (x67)] (tInt .i64) w9 fun r69 w68 =>
        ex (RdAt T48 a4 w68) fun x70 =>
        ex (RdAt (tInt .i64) (a6.add 1) w68) fun x71 =>
        cl Try.prog 38 [T48.enc (x70), .int .i64 (x71)] (tTup2 T48 (tInt .i64)) w68 fun r73 w72 =>
        st T48 a4 r73.1 w72 fun w74 =>
        F20_j1 a4 a8 r69 r73.2 w74 R
      ) else (
        if (x16 == (3 : Int)) = true then (
          ex (RdAt (tInt .i64) (a6.add 1) w9) fun x75 =>
          cl Try.prog 17 [.pointer (n_1), .int .i64 (x75)] (tInt .i64) w9 fun r77 w76 =>
          ex (RdAt T48 a4 w76) fun x78 =>
          ex (RdAt (tInt .i64) (a6.add 1) w76) fun x79 =>
          cl Try.prog 39 [T48.enc (x78), .int .i64 (x79)] (tTup2 T48 (tInt .i64)) w76 fun r81 w80 =>
          st T48 a4 r81.1 w80 fun w82 =>
          F20_j1 a4 a8 r77 r81.2 w82 R
        ) else (
          if (x16 == (4 : Int)) = true then (
            ex (RdAt (tInt .i64) (a6.add 1) w9) fun x83 =>
            ex (RdAt tBool (a6.add 4) w9) fun x84 =>
            cl Try.prog 12 [.pointer (n_1), .int .i64 (x83), .bool (x84)] (tInt .i64) w9 fun r86 w85 =>
            ex (RdAt T48 a4 w85) fun x87 =>
            ex (RdAt (tInt .i64) (a6.add 1) w85) fun x88 =>
            ex (RdAt tBool (a6.add 4) w85) fun x89 =>
            cl Try.prog 40 [T48.enc (x87), .int .i64 (x88), .bool (x89)] (tTup2 T48 (tInt .i64)) w85 fun r91 w90 =>
            st T48 a4 r91.1 w90 fun w92 =>
            F20_j1 a4 a8 r86 r91.2 w92 R
          ) else (
            if (x16 == (5 : Int)) = true then (
              ex (RdAt (tInt .i64) (a6.add 1) w9) fun x93 =>
              cl Try.prog 18 [.pointer (n_1), .int .i64 (x93)] (tInt .i64) w9 fun r95 w94 =>
              ex (RdAt T48 a4 w94) fun x96 =>
              ex (RdAt (tInt .i64) (a6.add 1) w94) fun x97 =>
              cl Try.prog 41 [T48.enc (x96), .int .i64 (x97)] (tTup2 T48 (tInt .i64)) w94 fun r99 w98 =>
              st T48 a4 r99.1 w98 fun w100 =>
              F20_j1 a4 a8 r95 r99.2 w100 R
            ) else (
              F20_j1 a4 a8 (0 : Int) (0 : Int) w9 R
            )
          )
        )
      )
    )
  )
theorem F20_ok {n_1 : (Option Addr)} {m_2 : S48} {o_3 : S28} {w : World} {R : (S48 × Bool) → World → Prop} (h : F20 n_1 m_2 o_3 w R) : cl Try.prog 20 [.pointer (n_1), T48.enc (m_2), T28.enc (o_3)] (tTup2 T48 tBool) w R := by
  unfold F20 at h
  refine calls_start 141 Try.func20 rfl rfl (Nat.le_of_ble_eq_true rfl) ?_
  refine wp_seq ?_
  refine wp_text [0, 1, 2, 3] rfl ?_
  obtain ⟨a4, w5, ha4, hw5, h⟩ := nw_open h
  refine ro_val (d := (some 4)) rfl (.free rfl) rfl (q_box (u := m_2) rfl ok49 rfl ha4 hw5) ?_
  obtain ⟨a6, w7, ha6, hw7, h⟩ := nw_open h
  refine ro_val (d := (some 5)) rfl (.free rfl) rfl (q_box (u := o_3) rfl ok29 rfl ha6 hw7) ?_
  obtain ⟨a8, w9, ha8, hw9, h⟩ := nw_open h
  refine ro_val (d := (some 6)) rfl (.free rfl) rfl (q_alloc (u := Z48) rfl ok49 inf49 ha8 hw9) ?_
  refine ro_val (d := (some 7)) rfl (.free rfl) rfl (q_assign (v := .bool (false)) rfl rfl) ?_
  refine ro_nil ?_
  refine wp_seq ?_
  refine wp_text [0, 1] rfl ?_
  refine ro_val (d := (some 8)) rfl (.free rfl) rfl (q_assign (v := .int .i64 ((0 : Int))) rfl rfl) ?_
  refine ro_val (d := (some 9)) rfl (.free rfl) rfl (q_assign (v := .int .i64 ((0 : Int))) rfl rfl) ?_
  refine ro_nil ?_
  refine seq_join (σ := Int × Int) (J := fun (s : Int × Int) w => F20_j1 a4 a8 s.1 s.2 w R) (fr := fun g (s : Int × Int) => upd (upd (upd (upd (g) 4 (.pointer (some a4))) 6 (.pointer (some a8))) 8 (.int .i64 (s.1))) 9 (.int .i64 (s.2))) ?_ ?_
  · rintro ⟨e_10, f_11⟩ g w12 h
    unfold F20_j1 at h
    refine wp_seq ?_
    refine wp_text [0, 1, 2, 3, 4, 5] rfl ?_
    obtain ⟨x13, hx13, h⟩ := h
    refine ro_val (d := (some 137)) rfl (.free rfl) rfl (q_load (T := T48) (u := x13) (a := a4) rfl ok49 rfl hx13) ?_
    refine ro_val (d := (some 138)) rfl (.free rfl) rfl (q_move (v := .int .i64 (e_10)) rfl rfl) ?_
    refine ro_val (d := (some 139)) rfl (.free rfl) rfl (q_move (v := .int .i64 (f_11)) rfl rfl) ?_
    refine ro_val (d := (some 140)) rfl (.free rfl) rfl (q_eql (a := e_10) (b := f_11) rfl rfl rfl) ?_
    obtain ⟨w14, hw14, hrw14, h⟩ := st_open h
    refine ro_skip (d := none) rfl (.free rfl) rfl (q_store (T := T48) (u := x13) (a := a8) rfl ok49 rfl rfl hrw14 hw14) ?_
    refine ro_val (d := (some 7)) rfl (.free rfl) rfl (q_assign (v := .bool ((e_10 == f_11))) rfl rfl) ?_
    refine ro_nil ?_
    refine wp_ret ?_
    obtain ⟨x15, hx15, h⟩ := h
    exact ret_ok rfl (.cons (.cell (T := T48) (u := x15) (a := a8) ok49 rfl hx15) (.cons (.tmp (v := .bool ((e_10 == f_11))) rfl) .nil)) ⟨(x15, (e_10 == f_11)), rfl, h⟩
  · refine wp_seq ?_
    refine wp_text [0, 1] rfl ?_
    refine ro_val (d := (some 20)) rfl (.free rfl) rfl (q_fieldAddr (a := a6) (off := 0) rfl Try.underlying29 rfl rfl ok3 (by decide) rfl) ?_
    obtain ⟨x16, hx16, h⟩ := h
    refine ro_val (d := (some 21)) rfl (.free rfl) rfl (q_load (T := (tInt .i64)) (u := x16) (a := (a6.add 0)) rfl ok3 rfl hx16) ?_
    refine ro_nil ?_
    refine wp_block ?_
    refine wp_seq ?_
    refine wp_text [0, 1] rfl ?_
    refine ro_val (d := (some 23)) rfl (.free rfl) rfl (q_eql (a := x16) (b := (0 : Int)) rfl rfl rfl) ?_
    refine ro_val (d := (some 22)) rfl (.free rfl) rfl (q_assign (v := .bool ((x16 == (0 : Int)))) rfl rfl) ?_
    refine ro_nil ?_
    refine wp_if (b := (x16 == (0 : Int))) rfl h (fun hb106 h => ?_) (fun hb106 h => ?_)
    · refine wp_seq ?_
      refine wp_text [0, 1, 2, 3, 4, 5, 6, 7, 8, 9, 10, 11, 12] rfl ?_
      refine ro_val (d := (some 25)) rfl (.free rfl) rfl (q_move (v := .pointer (n_1)) rfl rfl) ?_
      refine ro_val (d := (some 26)) rfl (.free rfl) rfl (q_fieldAddr (a := a6) (off := 1) rfl Try.underlying29 rfl rfl ok3 (by decide) rfl) ?_
      obtain ⟨x17, hx17, h⟩ := h
      refine ro_val (d := (some 27)) rfl (.free rfl) rfl (q_load (T := (tInt .i64)) (u := x17) (a := (a6.add 1)) rfl ok3 rfl hx17) ?_
      refine ro_val (d := (some 28)) rfl (.free rfl) rfl (q_fieldAddr (a := a6) (off := 2) rfl Try.underlying29 rfl rfl ok3 (by decide) rfl) ?_
      obtain ⟨x18, hx18, h⟩ := h
      refine ro_val (d := (some 29)) rfl (.free rfl) rfl (q_load (T := (tInt .i64)) (u := x18) (a := (a6.add 2)) rfl ok3 rfl hx18) ?_
      refine ro_val (d := (some 30)) rfl (.free rfl) rfl (q_fieldAddr (a := a6) (off := 3) rfl Try.underlying29 rfl rfl ok9 (by decide) rfl) ?_
      obtain ⟨x19, hx19, h⟩ := h
      refine ro_val (d := (some 31)) rfl (.free rfl) rfl (q_load (T := tStr) (u := x19) (a := (a6.add 3)) rfl ok9 rfl hx19) ?_
      refine ro_wp rfl (.free rfl) (wp_cl (d := (some 32)) rfl (q_call (k := 11) (l := [.pointer (n_1), .int .i64 (x17), .int .i64 (x18), .string ⟨(x19).toArray⟩]) rfl ent11 rfl) h ?_)
      intro r21 w20 h
      refine ro_val (d := (some 24)) rfl (.free rfl) rfl (q_move (v := (tTup2 (tInt .i64) (tInt .i64)).enc (r21)) rfl rfl) ?_
      refine ro_val (d := (some 33)) rfl (.free rfl) rfl (q_extract (vs := #[.int .i64 (r21.1), .int .i64 (r21.2)]) (v := .int .i64 (r21.1)) rfl rfl rfl) ?_
      refine ro_val (d := (some 34)) rfl (.free rfl) rfl (q_extract (vs := #[.int .i64 (r21.1), .int .i64 (r21.2)]) (v := .int .i64 (r21.2)) rfl rfl rfl) ?_
      refine ro_val (d := (some 10)) rfl (.free rfl) rfl (q_assign (v := .int .i64 (r21.1)) rfl rfl) ?_
      refine ro_val (d := (some 11)) rfl (.free rfl) rfl (q_assign (v := .int .i64 (r21.2)) rfl rfl) ?_
      refine ro_nil ?_
      refine wp_seq ?_
      refine wp_text [0, 1, 2, 3, 4, 5, 6, 7, 8, 9, 10, 11, 12, 13, 14, 15] rfl ?_
      obtain ⟨x22, hx22, h⟩ := h
      refine ro_val (d := (some 36)) rfl (.free rfl) rfl (q_load (T := T48) (u := x22) (a := a4) rfl ok49 rfl hx22) ?_
      refine ro_val (d := (some 37)) rfl (.free rfl) rfl (q_fieldAddr (a := a6) (off := 1) rfl Try.underlying29 rfl rfl ok3 (by decide) rfl) ?_
      obtain ⟨x23, hx23, h⟩ := h
      refine ro_val (d := (some 38)) rfl (.free rfl) rfl (q_load (T := (tInt .i64)) (u := x23) (a := (a6.add 1)) rfl ok3 rfl hx23) ?_
      refine ro_val (d := (some 39)) rfl (.free rfl) rfl (q_fieldAddr (a := a6) (off := 2) rfl Try.underlying29 rfl rfl ok3 (by decide) rfl) ?_
      obtain ⟨x24, hx24, h⟩ := h
      refine ro_val (d := (some 40)) rfl (.free rfl) rfl (q_load (T := (tInt .i64)) (u := x24) (a := (a6.add 2)) rfl ok3 rfl hx24) ?_
      refine ro_val (d := (some 41)) rfl (.free rfl) rfl (q_fieldAddr (a := a6) (off := 3) rfl Try.underlying29 rfl rfl ok9 (by decide) rfl) ?_
      obtain ⟨x25, hx25, h⟩ := h
      refine ro_val (d := (some 42)) rfl (.free rfl) rfl (q_load (T := tStr) (u := x25) (a := (a6.add 3)) rfl ok9 rfl hx25) ?_
      refine ro_wp rfl (.free rfl) (wp_cl (d := (some 43)) rfl (q_call (k := 36) (l := [T48.enc (x22), .int .i64 (x23), .int .i64 (x24), .string ⟨(x25).toArray⟩]) rfl ent36 rfl) h ?_)
      intro r27 w26 h
      refine ro_val (d := (some 35)) rfl (.free rfl) rfl (q_move (v := (tTup3 T48 (tInt .i64) (tInt .i64)).enc (r27)) rfl rfl) ?_
      refine ro_val (d := (some 44)) rfl (.free rfl) rfl (q_extract (vs := #[T48.enc (r27.1), .int .i64 (r27.2.1), .int .i64 (r27.2.2)]) (v := T48.enc (r27.1)) rfl rfl rfl) ?_
      refine ro_val (d := (some 45)) rfl (.free rfl) rfl (q_extract (vs := #[T48.enc (r27.1), .int .i64 (r27.2.1), .int .i64 (r27.2.2)]) (v := .int .i64 (r27.2.1)) rfl rfl rfl) ?_
      refine ro_val (d := (some 46)) rfl (.free rfl) rfl (q_extract (vs := #[T48.enc (r27.1), .int .i64 (r27.2.1), .int .i64 (r27.2.2)]) (v := .int .i64 (r27.2.2)) rfl rfl rfl) ?_
      obtain ⟨a28, w29, ha28, hw29, h⟩ := nw_open h
      refine ro_val (d := (some 12)) rfl (.free rfl) rfl (q_alloc (u := Z48) rfl ok49 inf49 ha28 hw29) ?_
      obtain ⟨w30, hw30, hrw30, h⟩ := st_open h
      refine ro_skip (d := none) rfl (.free rfl) rfl (q_store (T := T48) (u := r27.1) (a := a28) rfl ok49 rfl rfl hrw30 hw30) ?_
      refine ro_val (d := (some 13)) rfl (.free rfl) rfl (q_assign (v := .int .i64 (r27.2.1)) rfl rfl) ?_
      refine ro_val (d := (some 14)) rfl (.free rfl) rfl (q_assign (v := .int .i64 (r27.2.2)) rfl rfl) ?_
      refine ro_nil ?_
      refine wp_seq ?_
      refine wp_text [0, 1, 2, 3, 4, 5] rfl ?_
      obtain ⟨x31, hx31, h⟩ := h
      refine ro_val (d := (some 47)) rfl (.free rfl) rfl (q_load (T := T48) (u := x31) (a := a28) rfl ok49 rfl hx31) ?_
      refine ro_val (d := (some 48)) rfl (.free rfl) rfl (q_move (v := .int .i64 (r21.2)) rfl rfl) ?_
      refine ro_val (d := (some 49)) rfl (.free rfl) rfl (q_move (v := .int .i64 (r27.2.2)) rfl rfl) ?_
      obtain ⟨w32, hw32, hrw32, h⟩ := st_open h
      refine ro_skip (d := none) rfl (.free rfl) rfl (q_store (T := T48) (u := x31) (a := a4) rfl ok49 rfl rfl hrw32 hw32) ?_
      refine ro_val (d := (some 8)) rfl (.free rfl) rfl (q_assign (v := .int .i64 (r21.2)) rfl rfl) ?_
      refine ro_val (d := (some 9)) rfl (.free rfl) rfl (q_assign (v := .int .i64 (r27.2.2)) rfl rfl) ?_
      refine ro_nil ?_
      refine wp_seq ?_
      refine wp_text [0, 1, 2] rfl ?_
      refine ro_val (d := (some 50)) rfl (.free rfl) rfl (q_move (v := .int .i64 (r21.1)) rfl rfl) ?_
      refine ro_val (d := (some 51)) rfl (.free rfl) rfl (q_move (v := .int .i64 (r27.2.1)) rfl rfl) ?_
      refine ro_val (d := (some 52)) rfl (.free rfl) rfl (q_neq (a := r21.1) (b := r27.2.1) rfl rfl rfl) ?_
      refine ro_nil ?_
      refine wp_if (b := (r21.1 != r27.2.1)) rfl h (fun hb36 h => ?_) (fun hb36 h => ?_)
      · refine wp_seq ?_
        refine wp_text [0, 1, 2] rfl ?_
        obtain ⟨x33, hx33, h⟩ := h
        refine ro_val (d := (some 53)) rfl (.free rfl) rfl (q_load (T := T48) (u := x33) (a := a4) rfl ok49 rfl hx33) ?_
        obtain ⟨w34, hw34, hrw34, h⟩ := st_open h
        refine ro_skip (d := none) rfl (.free rfl) rfl (q_store (T := T48) (u := x33) (a := a8) rfl ok49 rfl rfl hrw34 hw34) ?_
        refine ro_val (d := (some 7)) rfl (.free rfl) rfl (q_assign (v := .bool (false)) rfl rfl) ?_
        refine ro_nil ?_
        refine wp_ret ?_
        obtain ⟨x35, hx35, h⟩ := h
        exact ret_ok rfl (.cons (.cell (T := T48) (u := x35) (a := a8) ok49 rfl hx35) (.cons (.tmp (v := .bool (false)) rfl) .nil)) ⟨(x35, false), rfl, h⟩
      · refine wp_skip ?_
        exact ⟨(r21.2, r27.2.2), _, arr (upd_step (upd_step (upd_step (upd_step rfl rfl) rfl) rfl) rfl), h⟩
    · refine wp_seq ?_
      refine wp_text [0, 1] rfl ?_
      refine ro_val (d := (some 55)) rfl (.free rfl) rfl (q_eql (a := x16) (b := (1 : Int)) rfl rfl rfl) ?_
      refine ro_val (d := (some 54)) rfl (.free rfl) rfl (q_assign (v := .bool ((x16 == (1 : Int)))) rfl rfl) ?_
      refine ro_nil ?_
      refine wp_if (b := (x16 == (1 : Int))) rfl h (fun hb105 h => ?_) (fun hb105 h => ?_)
      · refine wp_seq ?_
        refine wp_text [0, 1, 2, 3, 4, 5, 6, 7, 8, 9] rfl ?_
        refine ro_val (d := (some 57)) rfl (.free rfl) rfl (q_move (v := .pointer (n_1)) rfl rfl) ?_
        refine ro_val (d := (some 58)) rfl (.free rfl) rfl (q_fieldAddr (a := a6) (off := 1) rfl Try.underlying29 rfl rfl ok3 (by decide) rfl) ?_
        obtain ⟨x37, hx37, h⟩ := h
        refine ro_val (d := (some 59)) rfl (.free rfl) rfl (q_load (T := (tInt .i64)) (u := x37) (a := (a6.add 1)) rfl ok3 rfl hx37) ?_
        refine ro_wp rfl (.free rfl) (wp_cl (d := (some 60)) rfl (q_call (k := 14) (l := [.pointer (n_1), .int .i64 (x37)]) rfl ent14 rfl) h ?_)
        intro r39 w38 h
        refine ro_val (d := (some 56)) rfl (.free rfl) rfl (q_move (v := (tTup2 T35 (tInt .i64)).enc (r39)) rfl rfl) ?_
        refine ro_val (d := (some 61)) rfl (.free rfl) rfl (q_extract (vs := #[T35.enc (r39.1), .int .i64 (r39.2)]) (v := T35.enc (r39.1)) rfl rfl rfl) ?_
        refine ro_val (d := (some 62)) rfl (.free rfl) rfl (q_extract (vs := #[T35.enc (r39.1), .int .i64 (r39.2)]) (v := .int .i64 (r39.2)) rfl rfl rfl) ?_
        obtain ⟨a40, w41, ha40, hw41, h⟩ := nw_open h
        refine ro_val (d := (some 15)) rfl (.free rfl) rfl (q_alloc (u := Z35) rfl ok36 inf36 ha40 hw41) ?_
        obtain ⟨w42, hw42, hrw42, h⟩ := st_open h
        refine ro_skip (d := none) rfl (.free rfl) rfl (q_store (T := T35) (u := r39.1) (a := a40) rfl ok36 rfl rfl hrw42 hw42) ?_
        refine ro_val (d := (some 16)) rfl (.free rfl) rfl (q_assign (v := .int .i64 (r39.2)) rfl rfl) ?_
        refine ro_nil ?_
        refine wp_seq ?_
        refine wp_text [0, 1, 2, 3, 4, 5, 6, 7, 8, 9, 10, 11, 12] rfl ?_
        obtain ⟨x43, hx43, h⟩ := h
        refine ro_val (d := (some 64)) rfl (.free rfl) rfl (q_load (T := T48) (u := x43) (a := a4) rfl ok49 rfl hx43) ?_
        refine ro_val (d := (some 65)) rfl (.free rfl) rfl (q_fieldAddr (a := a6) (off := 1) rfl Try.underlying29 rfl rfl ok3 (by decide) rfl) ?_
        obtain ⟨x44, hx44, h⟩ := h
        refine ro_val (d := (some 66)) rfl (.free rfl) rfl (q_load (T := (tInt .i64)) (u := x44) (a := (a6.add 1)) rfl ok3 rfl hx44) ?_
        refine ro_wp rfl (.free rfl) (wp_cl (d := (some 67)) rfl (q_call (k := 37) (l := [T48.enc (x43), .int .i64 (x44)]) rfl ent37 rfl) h ?_)
        intro r46 w45 h
        refine ro_val (d := (some 63)) rfl (.free rfl) rfl (q_move (v := (tTup3 T48 T35 (tInt .i64)).enc (r46)) rfl rfl) ?_
        refine ro_val (d := (some 68)) rfl (.free rfl) rfl (q_extract (vs := #[T48.enc (r46.1), T35.enc (r46.2.1), .int .i64 (r46.2.2)]) (v := T48.enc (r46.1)) rfl rfl rfl) ?_
        refine ro_val (d := (some 69)) rfl (.free rfl) rfl (q_extract (vs := #[T48.enc (r46.1), T35.enc (r46.2.1), .int .i64 (r46.2.2)]) (v := T35.enc (r46.2.1)) rfl rfl rfl) ?_
        refine ro_val (d := (some 70)) rfl (.free rfl) rfl (q_extract (vs := #[T48.enc (r46.1), T35.enc (r46.2.1), .int .i64 (r46.2.2)]) (v := .int .i64 (r46.2.2)) rfl rfl rfl) ?_
        obtain ⟨a47, w48, ha47, hw48, h⟩ := nw_open h
        refine ro_val (d := (some 17)) rfl (.free rfl) rfl (q_alloc (u := Z48) rfl ok49 inf49 ha47 hw48) ?_
        obtain ⟨a49, w50, ha49, hw50, h⟩ := nw_open h
        refine ro_val (d := (some 18)) rfl (.free rfl) rfl (q_alloc (u := Z35) rfl ok75 inf75 ha49 hw50) ?_
        obtain ⟨w51, hw51, hrw51, h⟩ := st_open h
        refine ro_skip (d := none) rfl (.free rfl) rfl (q_store (T := T48) (u := r46.1) (a := a47) rfl ok49 rfl rfl hrw51 hw51) ?_
        obtain ⟨w52, hw52, hrw52, h⟩ := st_open h
        refine ro_skip (d := none) rfl (.free rfl) rfl (q_store (T := T35) (u := r46.2.1) (a := a49) rfl ok75 rfl rfl hrw52 hw52) ?_
        refine ro_val (d := (some 19)) rfl (.free rfl) rfl (q_assign (v := .int .i64 (r46.2.2)) rfl rfl) ?_
        refine ro_nil ?_
        refine wp_seq ?_
        refine wp_text [0, 1, 2, 3, 4, 5] rfl ?_
        obtain ⟨x53, hx53, h⟩ := h
        refine ro_val (d := (some 71)) rfl (.free rfl) rfl (q_load (T := T48) (u := x53) (a := a47) rfl ok49 rfl hx53) ?_
        refine ro_val (d := (some 72)) rfl (.free rfl) rfl (q_move (v := .int .i64 (r39.2)) rfl rfl) ?_
        refine ro_val (d := (some 73)) rfl (.free rfl) rfl (q_move (v := .int .i64 (r46.2.2)) rfl rfl) ?_
        obtain ⟨w54, hw54, hrw54, h⟩ := st_open h
        refine ro_skip (d := none) rfl (.free rfl) rfl (q_store (T := T48) (u := x53) (a := a4) rfl ok49 rfl rfl hrw54 hw54) ?_
        refine ro_val (d := (some 8)) rfl (.free rfl) rfl (q_assign (v := .int .i64 (r39.2)) rfl rfl) ?_
        refine ro_val (d := (some 9)) rfl (.free rfl) rfl (q_assign (v := .int .i64 (r46.2.2)) rfl rfl) ?_
        refine ro_nil ?_
        refine wp_seq ?_
        refine wp_text [0, 1, 2, 3, 4, 5] rfl ?_
        obtain ⟨x55, hx55, h⟩ := h
        refine ro_val (d := (some 74)) rfl (.free rfl) rfl (q_load (T := T35) (u := x55) (a := a40) rfl ok36 rfl hx55) ?_
        obtain ⟨a56, w57, ha56, hw57, h⟩ := nwS_open h
        refine ro_val (d := (some 75)) rfl (.free rfl) rfl (q_rowOf (T := T35) (xs := [x55]) rfl Try.underlying33 ok36 inf36 rfl (by decide) (by decide) rfl ha56 hw57) ?_
        obtain ⟨x58, hx58, h⟩ := h
        refine ro_val (d := (some 76)) rfl (.free rfl) rfl (q_load (T := T35) (u := x58) (a := a49) rfl ok75 rfl hx58) ?_
        obtain ⟨a59, w60, ha59, hw60, h⟩ := nwS_open h
        refine ro_val (d := (some 77)) rfl (.free rfl) rfl (q_rowOf (T := T35) (xs := [x58]) rfl Try.underlying47 ok75 inf75 rfl (by decide) (by decide) rfl ha59 hw60) ?_
        refine ro_wp rfl (.free rfl) (wp_cl (d := (some 78)) rfl (q_call (k := 21) (l := [tSlc.enc ((⟨some a56, 1, 1⟩ : Slc)), tSlc.enc ((⟨some a59, 1, 1⟩ : Slc))]) rfl ent21 rfl) h ?_)
        intro r62 w61 h
        refine ro_val (d := (some 79)) rfl (.free rfl) rfl (q_not (b := r62) rfl rfl) ?_
        refine ro_nil ?_
        refine wp_if (b := (!r62)) rfl h (fun hb66 h => ?_) (fun hb66 h => ?_)
        · refine wp_seq ?_
          refine wp_text [0, 1, 2] rfl ?_
          obtain ⟨x63, hx63, h⟩ := h
          refine ro_val (d := (some 80)) rfl (.free rfl) rfl (q_load (T := T48) (u := x63) (a := a4) rfl ok49 rfl hx63) ?_
          obtain ⟨w64, hw64, hrw64, h⟩ := st_open h
          refine ro_skip (d := none) rfl (.free rfl) rfl (q_store (T := T48) (u := x63) (a := a8) rfl ok49 rfl rfl hrw64 hw64) ?_
          refine ro_val (d := (some 7)) rfl (.free rfl) rfl (q_assign (v := .bool (false)) rfl rfl) ?_
          refine ro_nil ?_
          refine wp_ret ?_
          obtain ⟨x65, hx65, h⟩ := h
          exact ret_ok rfl (.cons (.cell (T := T48) (u := x65) (a := a8) ok49 rfl hx65) (.cons (.tmp (v := .bool (false)) rfl) .nil)) ⟨(x65, false), rfl, h⟩
        · refine wp_skip ?_
          exact ⟨(r39.2, r46.2.2), _, arr (upd_step (upd_step (upd_step (upd_step rfl rfl) rfl) rfl) rfl), h⟩
      · refine wp_seq ?_
        refine wp_text [0, 1] rfl ?_
        refine ro_val (d := (some 82)) rfl (.free rfl) rfl (q_eql (a := x16) (b := (2 : Int)) rfl rfl rfl) ?_
        refine ro_val (d := (some 81)) rfl (.free rfl) rfl (q_assign (v := .bool ((x16 == (2 : Int)))) rfl rfl) ?_
        refine ro_nil ?_
        refine wp_if (b := (x16 == (2 : Int))) rfl h (fun hb104 h => ?_) (fun hb104 h => ?_)
        · refine wp_seq ?_
          refine wp_text [0, 1, 2, 3, 4] rfl ?_
          refine ro_val (d := (some 83)) rfl (.free rfl) rfl (q_move (v := .pointer (n_1)) rfl rfl) ?_
          refine ro_val (d := (some 84)) rfl (.free rfl) rfl (q_fieldAddr (a := a6) (off := 1) rfl Try.underlying29 rfl rfl ok3 (by decide) rfl) ?_
          obtain ⟨x67, hx67, h⟩ := h
          refine ro_val (d := (some 85)) rfl (.free rfl) rfl (q_load (T := (tInt .i64)) (u := x67) (a := (a6.add 1)) rfl ok3 rfl hx67) ?_
          refine ro_wp rfl (.free rfl) (wp_cl (d := (some 86)) rfl (q_call (k := 16) (l := [.pointer (n_1), .int .i64 (x67)]) rfl ent16 rfl) h ?_)
          intro r69 w68 h
          refine ro_val (d := (some 8)) rfl (.free rfl) rfl (q_assign (v := .int .i64 (r69)) rfl rfl) ?_
          refine ro_nil ?_
          refine wp_text [0, 1, 2, 3, 4, 5, 6, 7, 8] rfl ?_
          obtain ⟨x70, hx70, h⟩ := h
          refine ro_val (d := (some 88)) rfl (.free rfl) rfl (q_load (T := T48) (u := x70) (a := a4) rfl ok49 rfl hx70) ?_
          refine ro_val (d := (some 89)) rfl (.free rfl) rfl (q_fieldAddr (a := a6) (off := 1) rfl Try.underlying29 rfl rfl ok3 (by decide) rfl) ?_
          obtain ⟨x71, hx71, h⟩ := h
          refine ro_val (d := (some 90)) rfl (.free rfl) rfl (q_load (T := (tInt .i64)) (u := x71) (a := (a6.add 1)) rfl ok3 rfl hx71) ?_
          refine ro_wp rfl (.free rfl) (wp_cl (d := (some 91)) rfl (q_call (k := 38) (l := [T48.enc (x70), .int .i64 (x71)]) rfl ent38 rfl) h ?_)
          intro r73 w72 h
          refine ro_val (d := (some 87)) rfl (.free rfl) rfl (q_move (v := (tTup2 T48 (tInt .i64)).enc (r73)) rfl rfl) ?_
          refine ro_val (d := (some 92)) rfl (.free rfl) rfl (q_extract (vs := #[T48.enc (r73.1), .int .i64 (r73.2)]) (v := T48.enc (r73.1)) rfl rfl rfl) ?_
          refine ro_val (d := (some 93)) rfl (.free rfl) rfl (q_extract (vs := #[T48.enc (r73.1), .int .i64 (r73.2)]) (v := .int .i64 (r73.2)) rfl rfl rfl) ?_
          obtain ⟨w74, hw74, hrw74, h⟩ := st_open h
          refine ro_skip (d := none) rfl (.free rfl) rfl (q_store (T := T48) (u := r73.1) (a := a4) rfl ok49 rfl rfl hrw74 hw74) ?_
          refine ro_val (d := (some 9)) rfl (.free rfl) rfl (q_assign (v := .int .i64 (r73.2)) rfl rfl) ?_
          refine ro_nil ?_
          exact ⟨(r69, r73.2), _, arr (upd_step (upd_step (upd_step (upd_step rfl rfl) rfl) rfl) rfl), h⟩
        · refine wp_seq ?_
          refine wp_text [0, 1] rfl ?_
          refine ro_val (d := (some 95)) rfl (.free rfl) rfl (q_eql (a := x16) (b := (3 : Int)) rfl rfl rfl) ?_
          refine ro_val (d := (some 94)) rfl (.free rfl) rfl (q_assign (v := .bool ((x16 == (3 : Int)))) rfl rfl) ?_
          refine ro_nil ?_
          refine wp_if (b := (x16 == (3 : Int))) rfl h (fun hb103 h => ?_) (fun hb103 h => ?_)
          · refine wp_seq ?_
            refine wp_text [0, 1, 2, 3, 4] rfl ?_
            refine ro_val (d := (some 96)) rfl (.free rfl) rfl (q_move (v := .pointer (n_1)) rfl rfl) ?_
            refine ro_val (d := (some 97)) rfl (.free rfl) rfl (q_fieldAddr (a := a6) (off := 1) rfl Try.underlying29 rfl rfl ok3 (by decide) rfl) ?_
            obtain ⟨x75, hx75, h⟩ := h
            refine ro_val (d := (some 98)) rfl (.free rfl) rfl (q_load (T := (tInt .i64)) (u := x75) (a := (a6.add 1)) rfl ok3 rfl hx75) ?_
            refine ro_wp rfl (.free rfl) (wp_cl (d := (some 99)) rfl (q_call (k := 17) (l := [.pointer (n_1), .int .i64 (x75)]) rfl ent17 rfl) h ?_)
            intro r77 w76 h
            refine ro_val (d := (some 8)) rfl (.free rfl) rfl (q_assign (v := .int .i64 (r77)) rfl rfl) ?_
            refine ro_nil ?_
            refine wp_text [0, 1, 2, 3, 4, 5, 6, 7, 8] rfl ?_
            obtain ⟨x78, hx78, h⟩ := h
            refine ro_val (d := (some 101)) rfl (.free rfl) rfl (q_load (T := T48) (u := x78) (a := a4) rfl ok49 rfl hx78) ?_
            refine ro_val (d := (some 102)) rfl (.free rfl) rfl (q_fieldAddr (a := a6) (off := 1) rfl Try.underlying29 rfl rfl ok3 (by decide) rfl) ?_
            obtain ⟨x79, hx79, h⟩ := h
            refine ro_val (d := (some 103)) rfl (.free rfl) rfl (q_load (T := (tInt .i64)) (u := x79) (a := (a6.add 1)) rfl ok3 rfl hx79) ?_
            refine ro_wp rfl (.free rfl) (wp_cl (d := (some 104)) rfl (q_call (k := 39) (l := [T48.enc (x78), .int .i64 (x79)]) rfl ent39 rfl) h ?_)
            intro r81 w80 h
            refine ro_val (d := (some 100)) rfl (.free rfl) rfl (q_move (v := (tTup2 T48 (tInt .i64)).enc (r81)) rfl rfl) ?_
            refine ro_val (d := (some 105)) rfl (.free rfl) rfl (q_extract (vs := #[T48.enc (r81.1), .int .i64 (r81.2)]) (v := T48.enc (r81.1)) rfl rfl rfl) ?_
            refine ro_val (d := (some 106)) rfl (.free rfl) rfl (q_extract (vs := #[T48.enc (r81.1), .int .i64 (r81.2)]) (v := .int .i64 (r81.2)) rfl rfl rfl) ?_
            obtain ⟨w82, hw82, hrw82, h⟩ := st_open h
            refine ro_skip (d := none) rfl (.free rfl) rfl (q_store (T := T48) (u := r81.1) (a := a4) rfl ok49 rfl rfl hrw82 hw82) ?_
            refine ro_val (d := (some 9)) rfl (.free rfl) rfl (q_assign (v := .int .i64 (r81.2)) rfl rfl) ?_
            refine ro_nil ?_
            exact ⟨(r77, r81.2), _, arr (upd_step (upd_step (upd_step (upd_step rfl rfl) rfl) rfl) rfl), h⟩
          · refine wp_seq ?_
            refine wp_text [0, 1] rfl ?_
            refine ro_val (d := (some 108)) rfl (.free rfl) rfl (q_eql (a := x16) (b := (4 : Int)) rfl rfl rfl) ?_
            refine ro_val (d := (some 107)) rfl (.free rfl) rfl (q_assign (v := .bool ((x16 == (4 : Int)))) rfl rfl) ?_
            refine ro_nil ?_
            refine wp_if (b := (x16 == (4 : Int))) rfl h (fun hb102 h => ?_) (fun hb102 h => ?_)
            · refine wp_seq ?_
              refine wp_text [0, 1, 2, 3, 4, 5, 6] rfl ?_
              refine ro_val (d := (some 109)) rfl (.free rfl) rfl (q_move (v := .pointer (n_1)) rfl rfl) ?_
              refine ro_val (d := (some 110)) rfl (.free rfl) rfl (q_fieldAddr (a := a6) (off := 1) rfl Try.underlying29 rfl rfl ok3 (by decide) rfl) ?_
              obtain ⟨x83, hx83, h⟩ := h
              refine ro_val (d := (some 111)) rfl (.free rfl) rfl (q_load (T := (tInt .i64)) (u := x83) (a := (a6.add 1)) rfl ok3 rfl hx83) ?_
              refine ro_val (d := (some 112)) rfl (.free rfl) rfl (q_fieldAddr (a := a6) (off := 4) rfl Try.underlying29 rfl rfl ok4 (by decide) rfl) ?_
              obtain ⟨x84, hx84, h⟩ := h
              refine ro_val (d := (some 113)) rfl (.free rfl) rfl (q_load (T := tBool) (u := x84) (a := (a6.add 4)) rfl ok4 rfl hx84) ?_
              refine ro_wp rfl (.free rfl) (wp_cl (d := (some 114)) rfl (q_call (k := 12) (l := [.pointer (n_1), .int .i64 (x83), .bool (x84)]) rfl ent12 rfl) h ?_)
              intro r86 w85 h
              refine ro_val (d := (some 8)) rfl (.free rfl) rfl (q_assign (v := .int .i64 (r86)) rfl rfl) ?_
              refine ro_nil ?_
              refine wp_text [0, 1, 2, 3, 4, 5, 6, 7, 8, 9, 10] rfl ?_
              obtain ⟨x87, hx87, h⟩ := h
              refine ro_val (d := (some 116)) rfl (.free rfl) rfl (q_load (T := T48) (u := x87) (a := a4) rfl ok49 rfl hx87) ?_
              refine ro_val (d := (some 117)) rfl (.free rfl) rfl (q_fieldAddr (a := a6) (off := 1) rfl Try.underlying29 rfl rfl ok3 (by decide) rfl) ?_
              obtain ⟨x88, hx88, h⟩ := h
              refine ro_val (d := (some 118)) rfl (.free rfl) rfl (q_load (T := (tInt .i64)) (u := x88) (a := (a6.add 1)) rfl ok3 rfl hx88) ?_
              refine ro_val (d := (some 119)) rfl (.free rfl) rfl (q_fieldAddr (a := a6) (off := 4) rfl Try.underlying29 rfl rfl ok4 (by decide) rfl) ?_
              obtain ⟨x89, hx89, h⟩ := h
              refine ro_val (d := (some 120)) rfl (.free rfl) rfl (q_load (T := tBool) (u := x89) (a := (a6.add 4)) rfl ok4 rfl hx89) ?_
              refine ro_wp rfl (.free rfl) (wp_cl (d := (some 121)) rfl (q_call (k := 40) (l := [T48.enc (x87), .int .i64 (x88), .bool (x89)]) rfl ent40 rfl) h ?_)
              intro r91 w90 h
              refine ro_val (d := (some 115)) rfl (.free rfl) rfl (q_move (v := (tTup2 T48 (tInt .i64)).enc (r91)) rfl rfl) ?_
              refine ro_val (d := (some 122)) rfl (.free rfl) rfl (q_extract (vs := #[T48.enc (r91.1), .int .i64 (r91.2)]) (v := T48.enc (r91.1)) rfl rfl rfl) ?_
              refine ro_val (d := (some 123)) rfl (.free rfl) rfl (q_extract (vs := #[T48.enc (r91.1), .int .i64 (r91.2)]) (v := .int .i64 (r91.2)) rfl rfl rfl) ?_
              obtain ⟨w92, hw92, hrw92, h⟩ := st_open h
              refine ro_skip (d := none) rfl (.free rfl) rfl (q_store (T := T48) (u := r91.1) (a := a4) rfl ok49 rfl rfl hrw92 hw92) ?_
              refine ro_val (d := (some 9)) rfl (.free rfl) rfl (q_assign (v := .int .i64 (r91.2)) rfl rfl) ?_
              refine ro_nil ?_
              exact ⟨(r86, r91.2), _, arr (upd_step (upd_step (upd_step (upd_step rfl rfl) rfl) rfl) rfl), h⟩
            · refine wp_seq ?_
              refine wp_text [0, 1] rfl ?_
              refine ro_val (d := (some 125)) rfl (.free rfl) rfl (q_eql (a := x16) (b := (5 : Int)) rfl rfl rfl) ?_
              refine ro_val (d := (some 124)) rfl (.free rfl) rfl (q_assign (v := .bool ((x16 == (5 : Int)))) rfl rfl) ?_
              refine ro_nil ?_
              refine wp_if (b := (x16 == (5 : Int))) rfl h (fun hb101 h => ?_) (fun hb101 h => ?_)
              · refine wp_seq ?_
                refine wp_text [0, 1, 2, 3, 4] rfl ?_
                refine ro_val (d := (some 126)) rfl (.free rfl) rfl (q_move (v := .pointer (n_1)) rfl rfl) ?_
                refine ro_val (d := (some 127)) rfl (.free rfl) rfl (q_fieldAddr (a := a6) (off := 1) rfl Try.underlying29 rfl rfl ok3 (by decide) rfl) ?_
                obtain ⟨x93, hx93, h⟩ := h
                refine ro_val (d := (some 128)) rfl (.free rfl) rfl (q_load (T := (tInt .i64)) (u := x93) (a := (a6.add 1)) rfl ok3 rfl hx93) ?_
                refine ro_wp rfl (.free rfl) (wp_cl (d := (some 129)) rfl (q_call (k := 18) (l := [.pointer (n_1), .int .i64 (x93)]) rfl ent18 rfl) h ?_)
                intro r95 w94 h
                refine ro_val (d := (some 8)) rfl (.free rfl) rfl (q_assign (v := .int .i64 (r95)) rfl rfl) ?_
                refine ro_nil ?_
                refine wp_text [0, 1, 2, 3, 4, 5, 6, 7, 8] rfl ?_
                obtain ⟨x96, hx96, h⟩ := h
                refine ro_val (d := (some 131)) rfl (.free rfl) rfl (q_load (T := T48) (u := x96) (a := a4) rfl ok49 rfl hx96) ?_
                refine ro_val (d := (some 132)) rfl (.free rfl) rfl (q_fieldAddr (a := a6) (off := 1) rfl Try.underlying29 rfl rfl ok3 (by decide) rfl) ?_
                obtain ⟨x97, hx97, h⟩ := h
                refine ro_val (d := (some 133)) rfl (.free rfl) rfl (q_load (T := (tInt .i64)) (u := x97) (a := (a6.add 1)) rfl ok3 rfl hx97) ?_
                refine ro_wp rfl (.free rfl) (wp_cl (d := (some 134)) rfl (q_call (k := 41) (l := [T48.enc (x96), .int .i64 (x97)]) rfl ent41 rfl) h ?_)
                intro r99 w98 h
                refine ro_val (d := (some 130)) rfl (.free rfl) rfl (q_move (v := (tTup2 T48 (tInt .i64)).enc (r99)) rfl rfl) ?_
                refine ro_val (d := (some 135)) rfl (.free rfl) rfl (q_extract (vs := #[T48.enc (r99.1), .int .i64 (r99.2)]) (v := T48.enc (r99.1)) rfl rfl rfl) ?_
                refine ro_val (d := (some 136)) rfl (.free rfl) rfl (q_extract (vs := #[T48.enc (r99.1), .int .i64 (r99.2)]) (v := .int .i64 (r99.2)) rfl rfl rfl) ?_
                obtain ⟨w100, hw100, hrw100, h⟩ := st_open h
                refine ro_skip (d := none) rfl (.free rfl) rfl (q_store (T := T48) (u := r99.1) (a := a4) rfl ok49 rfl rfl hrw100 hw100) ?_
                refine ro_val (d := (some 9)) rfl (.free rfl) rfl (q_assign (v := .int .i64 (r99.2)) rfl rfl) ?_
                refine ro_nil ?_
                exact ⟨(r95, r99.2), _, arr (upd_step (upd_step (upd_step (upd_step rfl rfl) rfl) rfl) rfl), h⟩
              · refine wp_skip ?_
                exact ⟨((0 : Int), (0 : Int)), _, arr (upd_step (upd_step (upd_step (upd_step rfl rfl) rfl) rfl) rfl), h⟩

-- moiety/moietylaw09.told
def F21_l1 (l_1 : Slc) (m_2 : Slc) (i_3 : Int) (w4 : World) (K5 : Int → World → Prop) (R : Bool → World → Prop) : Prop :=
  if (decide (i_3 < (l_1.len : Int))) = true then (
    dr w4 fun w6 =>
    ex (IxA l_1 4 i_3) fun a7 =>
    ex (IxA m_2 4 i_3) fun a8 =>
    ex (RdAt (tInt .i64) (a7.add 0) w6) fun x9 =>
    ex (RdAt (tInt .i64) (a8.add 0) w6) fun x10 =>
    ex (fun x => (!(x9 != x10)) = true → (IxA l_1 4 i_3) x) fun a11 =>
    ex (fun x => (!(x9 != x10)) = true → (IxA m_2 4 i_3) x) fun a12 =>
    ex (fun x => (!(x9 != x10)) = true → (RdAt (tInt .i64) (a11.add 1) w6) x) fun x13 =>
    ex (fun x => (!(x9 != x10)) = true → (RdAt (tInt .i64) (a12.add 1) w6) x) fun x14 =>
    ex (fun x => (!((x9 != x10) || (x13 != x14))) = true → (IxA l_1 4 i_3) x) fun a15 =>
    ex (fun x => (!((x9 != x10) || (x13 != x14))) = true → (IxA m_2 4 i_3) x) fun a16 =>
    ex (fun x => (!((x9 != x10) || (x13 != x14))) = true → (RdAt (tInt .i64) (a15.add 2) w6) x) fun x17 =>
    ex (fun x => (!((x9 != x10) || (x13 != x14))) = true → (RdAt (tInt .i64) (a16.add 2) w6) x) fun x18 =>
    ex (fun x => (!(((x9 != x10) || (x13 != x14)) || (x17 != x18))) = true → (IxA l_1 4 i_3) x) fun a19 =>
    ex (fun x => (!(((x9 != x10) || (x13 != x14)) || (x17 != x18))) = true → (IxA m_2 4 i_3) x) fun a20 =>
    ex (fun x => (!(((x9 != x10) || (x13 != x14)) || (x17 != x18))) = true → (RdAt tStr (a19.add 3) w6) x) fun x21 =>
    ex (fun x => (!(((x9 != x10) || (x13 != x14)) || (x17 != x18))) = true → (RdAt tStr (a20.add 3) w6) x) fun x22 =>
    if ((((x9 != x10) || (x13 != x14)) || (x17 != x18)) || (!(x21 == x22))) = true then (
      R false w6
    ) else (
      K5 ((IntKind.i64.wrap (i_3 + (1 : Int)))) w6
    )
  ) else (
    R true w4
  )
def F21 (l_1 : Slc) (m_2 : Slc) (w : World) (R : Bool → World → Prop) : Prop :=
  if ((l_1.len : Int) != (m_2.len : Int)) = true then (
    R false w
  ) else (
    lp (fun (s : Int) w K => F21_l1 l_1 m_2 s w K R) ((0 : Int)) w
  )
theorem F21_ok {l_1 : Slc} {m_2 : Slc} {w : World} {R : Bool → World → Prop} (h : F21 l_1 m_2 w R) : cl Try.prog 21 [tSlc.enc (l_1), tSlc.enc (m_2)] tBool w R := by
  unfold F21 at h
  refine calls_start 67 Try.func21 rfl rfl (Nat.le_of_ble_eq_true rfl) ?_
  refine wp_seq ?_
  refine wp_text [0] rfl ?_
  refine ro_val (d := (some 4)) rfl (.free rfl) rfl (q_assign (v := .bool (false)) rfl rfl) ?_
  refine ro_nil ?_
  refine wp_seq ?_
  refine wp_seq ?_
  refine wp_text [0, 1, 2, 3, 4] rfl ?_
  refine ro_val (d := (some 6)) rfl (.free rfl) rfl (q_move (v := tSlc.enc (l_1)) rfl rfl) ?_
  refine ro_val (d := (some 7)) rfl (.free rfl) rfl (q_len (s := l_1) rfl Try.underlying33 rfl) ?_
  refine ro_val (d := (some 8)) rfl (.free rfl) rfl (q_move (v := tSlc.enc (m_2)) rfl rfl) ?_
  refine ro_val (d := (some 9)) rfl (.free rfl) rfl (q_len (s := m_2) rfl Try.underlying47 rfl) ?_
  refine ro_val (d := (some 10)) rfl (.free rfl) rfl (q_neq (a := (l_1.len : Int)) (b := (m_2.len : Int)) rfl rfl rfl) ?_
  refine ro_nil ?_
  refine wp_if (b := ((l_1.len : Int) != (m_2.len : Int))) rfl h (fun hb25 h => ?_) (fun hb25 h => ?_)
  · refine wp_seq ?_
    refine wp_text [0] rfl ?_
    refine ro_val (d := (some 4)) rfl (.free rfl) rfl (q_assign (v := .bool (false)) rfl rfl) ?_
    refine ro_nil ?_
    refine wp_ret ?_
    exact ret_ok rfl (.cons (.tmp (v := .bool (false)) rfl) .nil) ⟨false, rfl, h⟩
  · refine wp_skip ?_
    refine wp_seq ?_
    refine wp_seq ?_
    refine wp_text [0] rfl ?_
    refine ro_val (d := (some 5)) rfl (.free rfl) rfl (q_assign (v := .int .i64 ((0 : Int))) rfl rfl) ?_
    refine ro_nil ?_
    refine wp_block ?_
    refine loop_at (σ := Int) (fr := fun g (s : Int) => upd (upd (upd (g) 0 (tSlc.enc (l_1))) 1 (tSlc.enc (m_2))) 5 (.int .i64 (s))) (s0 := ((0 : Int))) (upd_step (upd_step (upd_step rfl rfl) rfl) rfl) h ?_
    rintro i_3 g w4 K5 h
    unfold F21_l1 at h
    refine wp_seq ?_
    refine wp_seq ?_
    refine wp_text [0, 1, 2, 3] rfl ?_
    refine ro_val (d := (some 11)) rfl (.free rfl) rfl (q_move (v := .int .i64 (i_3)) rfl rfl) ?_
    refine ro_val (d := (some 12)) rfl (.free rfl) rfl (q_move (v := tSlc.enc (l_1)) rfl rfl) ?_
    refine ro_val (d := (some 13)) rfl (.free rfl) rfl (q_len (s := l_1) rfl Try.underlying33 rfl) ?_
    refine ro_val (d := (some 14)) rfl (.free rfl) rfl (q_lss (a := i_3) (b := (l_1.len : Int)) rfl rfl rfl) ?_
    refine ro_nil ?_
    refine wp_if (b := (decide (i_3 < (l_1.len : Int)))) rfl h (fun hb24 h => ?_) (fun hb24 h => ?_)
    · refine wp_skip ?_
      refine wp_seq ?_
      refine wp_block ?_
      refine wp_seq ?_
      obtain ⟨w6, hw6, h⟩ := dr_open h
      refine wp_drawn 50 mixed rfl (by kernel_rfl) (by intro c a d v w h; cases d <;> exact h) hw6 (fun hD => ?_)
      refine rd_pure (i := 0) (d := (some 17)) hD (by kernel_rfl) (by kernel_rfl) rfl (.free rfl) rfl (fun _ => q_move (v := tSlc.enc (l_1)) rfl rfl) ?_
      refine rd_pure (i := 1) (d := (some 18)) hD (by kernel_rfl) (by kernel_rfl) rfl (.free rfl) rfl (fun _ => q_move (v := .int .i64 (i_3)) rfl rfl) ?_
      obtain ⟨a7, ha7, h⟩ := h
      refine rd_pure (i := 2) (d := (some 19)) hD (by kernel_rfl) (by kernel_rfl) rfl (.free rfl) rfl (fun _ => q_indexAddr (s := l_1) (i := i_3) rfl Try.underlying33 ok36 rfl rfl ha7) ?_
      refine rd_pure (i := 3) (d := (some 20)) hD (by kernel_rfl) (by kernel_rfl) rfl (.free rfl) rfl (fun _ => q_fieldAddr (a := a7) (off := 0) rfl Try.underlying36 rfl rfl ok3 (by decide) rfl) ?_
      refine rd_pure (i := 5) (d := (some 22)) hD (by kernel_rfl) (by kernel_rfl) rfl (.free rfl) rfl (fun _ => q_move (v := tSlc.enc (m_2)) rfl rfl) ?_
      refine rd_pure (i := 6) (d := (some 23)) hD (by kernel_rfl) (by kernel_rfl) rfl (.free rfl) rfl (fun _ => q_move (v := .int .i64 (i_3)) rfl rfl) ?_
      obtain ⟨a8, ha8, h⟩ := h
      refine rd_pure (i := 7) (d := (some 24)) hD (by kernel_rfl) (by kernel_rfl) rfl (.free rfl) rfl (fun _ => q_indexAddr (s := m_2) (i := i_3) rfl Try.underlying47 ok75 rfl rfl ha8) ?_
      refine rd_pure (i := 8) (d := (some 25)) hD (by kernel_rfl) (by kernel_rfl) rfl (.free rfl) rfl (fun _ => q_fieldAddr (a := a8) (off := 0) rfl Try.underlying75 rfl rfl ok3 (by decide) rfl) ?_
      obtain ⟨x9, hx9, h⟩ := h
      refine rd_read (i := 4) (d := (some 21)) (fun W => (RdAt (tInt .i64) (a7.add 0) W) x9) hD (by kernel_rfl) (by kernel_rfl) rfl (.free rfl) rfl (fun W hr => q_load (T := (tInt .i64)) (u := x9) (a := (a7.add 0)) rfl ok3 rfl hr) hx9 ?_
      obtain ⟨x10, hx10, h⟩ := h
      refine rd_read (i := 9) (d := (some 26)) (fun W => (RdAt (tInt .i64) (a8.add 0) W) x10) hD (by kernel_rfl) (by kernel_rfl) rfl (.free rfl) rfl (fun W hr => q_load (T := (tInt .i64)) (u := x10) (a := (a8.add 0)) rfl ok3 rfl hr) hx10 ?_
      refine rd_pure (i := 10) (d := (some 27)) hD (by kernel_rfl) (by kernel_rfl) rfl (.free rfl) rfl (fun _ => q_neq (a := x9) (b := x10) rfl rfl rfl) ?_
      refine rd_pure (i := 11) (d := (some 28)) hD (by kernel_rfl) (by kernel_rfl) rfl (.free rfl) rfl (fun _ => q_move (v := .bool ((x9 != x10))) rfl rfl) ?_
      refine rd_gpure (i := 12) (g := (!(x9 != x10))) (d := (some 29)) hD (by kernel_rfl) (by kernel_rfl) rfl (.no 11 28 true (x9 != x10) rfl rfl rfl rfl) rfl (fun hg _ => q_move (v := tSlc.enc (l_1)) rfl rfl) ?_
      refine rd_gpure (i := 13) (g := (!(x9 != x10))) (d := (some 30)) hD (by kernel_rfl) (by kernel_rfl) rfl (.no 11 28 true (x9 != x10) rfl rfl rfl rfl) rfl (fun hg _ => q_move (v := .int .i64 (i_3)) rfl rfl) ?_
      obtain ⟨a11, ha11, h⟩ := h
      refine rd_gpure (i := 14) (g := (!(x9 != x10))) (d := (some 31)) hD (by kernel_rfl) (by kernel_rfl) rfl (.no 11 28 true (x9 != x10) rfl rfl rfl rfl) rfl (fun hg _ => q_indexAddr (s := l_1) (i := i_3) rfl Try.underlying33 ok36 (gvb_yes hg) (gvb_yes hg) (ha11 hg)) ?_
      refine rd_gpure (i := 15) (g := (!(x9 != x10))) (d := (some 32)) hD (by kernel_rfl) (by kernel_rfl) rfl (.no 11 28 true (x9 != x10) rfl rfl rfl rfl) rfl (fun hg _ => q_fieldAddr (a := a11) (off := 1) rfl Try.underlying36 rfl rfl ok3 (by decide) (gvb_yes hg)) ?_
      refine rd_gpure (i := 17) (g := (!(x9 != x10))) (d := (some 34)) hD (by kernel_rfl) (by kernel_rfl) rfl (.no 11 28 true (x9 != x10) rfl rfl rfl rfl) rfl (fun hg _ => q_move (v := tSlc.enc (m_2)) rfl rfl) ?_
      refine rd_gpure (i := 18) (g := (!(x9 != x10))) (d := (some 35)) hD (by kernel_rfl) (by kernel_rfl) rfl (.no 11 28 true (x9 != x10) rfl rfl rfl rfl) rfl (fun hg _ => q_move (v := .int .i64 (i_3)) rfl rfl) ?_
      obtain ⟨a12, ha12, h⟩ := h
      refine rd_gpure (i := 19) (g := (!(x9 != x10))) (d := (some 36)) hD (by kernel_rfl) (by kernel_rfl) rfl (.no 11 28 true (x9 != x10) rfl rfl rfl rfl) rfl (fun hg _ => q_indexAddr (s := m_2) (i := i_3) rfl Try.underlying47 ok75 (gvb_yes hg) (gvb_yes hg) (ha12 hg)) ?_
      refine rd_gpure (i := 20) (g := (!(x9 != x10))) (d := (some 37)) hD (by kernel_rfl) (by kernel_rfl) rfl (.no 11 28 true (x9 != x10) rfl rfl rfl rfl) rfl (fun hg _ => q_fieldAddr (a := a12) (off := 1) rfl Try.underlying75 rfl rfl ok3 (by decide) (gvb_yes hg)) ?_
      obtain ⟨x13, hx13, h⟩ := h
      refine rd_gread (i := 16) (g := (!(x9 != x10))) (d := (some 33)) (fun W => (RdAt (tInt .i64) (a11.add 1) W) x13) hD (by kernel_rfl) (by kernel_rfl) rfl (.no 11 28 true (x9 != x10) rfl rfl rfl rfl) rfl (fun hg W hr => q_load (T := (tInt .i64)) (u := x13) (a := (a11.add 1)) rfl ok3 (gvb_yes hg) hr) hx13 ?_
      obtain ⟨x14, hx14, h⟩ := h
      refine rd_gread (i := 21) (g := (!(x9 != x10))) (d := (some 38)) (fun W => (RdAt (tInt .i64) (a12.add 1) W) x14) hD (by kernel_rfl) (by kernel_rfl) rfl (.no 11 28 true (x9 != x10) rfl rfl rfl rfl) rfl (fun hg W hr => q_load (T := (tInt .i64)) (u := x14) (a := (a12.add 1)) rfl ok3 (gvb_yes hg) hr) hx14 ?_
      refine rd_gpure (i := 22) (g := (!(x9 != x10))) (d := (some 39)) hD (by kernel_rfl) (by kernel_rfl) rfl (.no 11 28 true (x9 != x10) rfl rfl rfl rfl) rfl (fun hg _ => q_neq (a := x13) (b := x14) rfl (gvb_yes hg) (gvb_yes hg)) ?_
      refine rd_pure (i := 23) (d := (some 40)) hD (by kernel_rfl) (by kernel_rfl) rfl (.free rfl) rfl (fun _ => q_pickGF (a := (x9 != x10)) (c := (x13 != x14)) rfl rfl rfl rfl) ?_
      refine rd_pure (i := 24) (d := (some 41)) hD (by kernel_rfl) (by kernel_rfl) rfl (.free rfl) rfl (fun _ => q_move (v := .bool (((x9 != x10) || (x13 != x14)))) rfl rfl) ?_
      refine rd_gpure (i := 25) (g := (!((x9 != x10) || (x13 != x14)))) (d := (some 42)) hD (by kernel_rfl) (by kernel_rfl) rfl (.no 24 41 true ((x9 != x10) || (x13 != x14)) rfl rfl rfl rfl) rfl (fun hg _ => q_move (v := tSlc.enc (l_1)) rfl rfl) ?_
      refine rd_gpure (i := 26) (g := (!((x9 != x10) || (x13 != x14)))) (d := (some 43)) hD (by kernel_rfl) (by kernel_rfl) rfl (.no 24 41 true ((x9 != x10) || (x13 != x14)) rfl rfl rfl rfl) rfl (fun hg _ => q_move (v := .int .i64 (i_3)) rfl rfl) ?_
      obtain ⟨a15, ha15, h⟩ := h
      refine rd_gpure (i := 27) (g := (!((x9 != x10) || (x13 != x14)))) (d := (some 44)) hD (by kernel_rfl) (by kernel_rfl) rfl (.no 24 41 true ((x9 != x10) || (x13 != x14)) rfl rfl rfl rfl) rfl (fun hg _ => q_indexAddr (s := l_1) (i := i_3) rfl Try.underlying33 ok36 (gvb_yes hg) (gvb_yes hg) (ha15 hg)) ?_
      refine rd_gpure (i := 28) (g := (!((x9 != x10) || (x13 != x14)))) (d := (some 45)) hD (by kernel_rfl) (by kernel_rfl) rfl (.no 24 41 true ((x9 != x10) || (x13 != x14)) rfl rfl rfl rfl) rfl (fun hg _ => q_fieldAddr (a := a15) (off := 2) rfl Try.underlying36 rfl rfl ok3 (by decide) (gvb_yes hg)) ?_
      refine rd_gpure (i := 30) (g := (!((x9 != x10) || (x13 != x14)))) (d := (some 47)) hD (by kernel_rfl) (by kernel_rfl) rfl (.no 24 41 true ((x9 != x10) || (x13 != x14)) rfl rfl rfl rfl) rfl (fun hg _ => q_move (v := tSlc.enc (m_2)) rfl rfl) ?_
      refine rd_gpure (i := 31) (g := (!((x9 != x10) || (x13 != x14)))) (d := (some 48)) hD (by kernel_rfl) (by kernel_rfl) rfl (.no 24 41 true ((x9 != x10) || (x13 != x14)) rfl rfl rfl rfl) rfl (fun hg _ => q_move (v := .int .i64 (i_3)) rfl rfl) ?_
      obtain ⟨a16, ha16, h⟩ := h
      refine rd_gpure (i := 32) (g := (!((x9 != x10) || (x13 != x14)))) (d := (some 49)) hD (by kernel_rfl) (by kernel_rfl) rfl (.no 24 41 true ((x9 != x10) || (x13 != x14)) rfl rfl rfl rfl) rfl (fun hg _ => q_indexAddr (s := m_2) (i := i_3) rfl Try.underlying47 ok75 (gvb_yes hg) (gvb_yes hg) (ha16 hg)) ?_
      refine rd_gpure (i := 33) (g := (!((x9 != x10) || (x13 != x14)))) (d := (some 50)) hD (by kernel_rfl) (by kernel_rfl) rfl (.no 24 41 true ((x9 != x10) || (x13 != x14)) rfl rfl rfl rfl) rfl (fun hg _ => q_fieldAddr (a := a16) (off := 2) rfl Try.underlying75 rfl rfl ok3 (by decide) (gvb_yes hg)) ?_
      obtain ⟨x17, hx17, h⟩ := h
      refine rd_gread (i := 29) (g := (!((x9 != x10) || (x13 != x14)))) (d := (some 46)) (fun W => (RdAt (tInt .i64) (a15.add 2) W) x17) hD (by kernel_rfl) (by kernel_rfl) rfl (.no 24 41 true ((x9 != x10) || (x13 != x14)) rfl rfl rfl rfl) rfl (fun hg W hr => q_load (T := (tInt .i64)) (u := x17) (a := (a15.add 2)) rfl ok3 (gvb_yes hg) hr) hx17 ?_
      obtain ⟨x18, hx18, h⟩ := h
      refine rd_gread (i := 34) (g := (!((x9 != x10) || (x13 != x14)))) (d := (some 51)) (fun W => (RdAt (tInt .i64) (a16.add 2) W) x18) hD (by kernel_rfl) (by kernel_rfl) rfl (.no 24 41 true ((x9 != x10) || (x13 != x14)) rfl rfl rfl rfl) rfl (fun hg W hr => q_load (T := (tInt .i64)) (u := x18) (a := (a16.add 2)) rfl ok3 (gvb_yes hg) hr) hx18 ?_
      refine rd_gpure (i := 35) (g := (!((x9 != x10) || (x13 != x14)))) (d := (some 52)) hD (by kernel_rfl) (by kernel_rfl) rfl (.no 24 41 true ((x9 != x10) || (x13 != x14)) rfl rfl rfl rfl) rfl (fun hg _ => q_neq (a := x17) (b := x18) rfl (gvb_yes hg) (gvb_yes hg)) ?_
      refine rd_pure (i := 36) (d := (some 53)) hD (by kernel_rfl) (by kernel_rfl) rfl (.free rfl) rfl (fun _ => q_pickGF (a := ((x9 != x10) || (x13 != x14))) (c := (x17 != x18)) rfl rfl rfl rfl) ?_
      refine rd_pure (i := 37) (d := (some 54)) hD (by kernel_rfl) (by kernel_rfl) rfl (.free rfl) rfl (fun _ => q_move (v := .bool ((((x9 != x10) || (x13 != x14)) || (x17 != x18)))) rfl rfl) ?_
      refine rd_gpure (i := 38) (g := (!(((x9 != x10) || (x13 != x14)) || (x17 != x18)))) (d := (some 55)) hD (by kernel_rfl) (by kernel_rfl) rfl (.no 37 54 true (((x9 != x10) || (x13 != x14)) || (x17 != x18)) rfl rfl rfl rfl) rfl (fun hg _ => q_move (v := tSlc.enc (l_1)) rfl rfl) ?_
      refine rd_gpure (i := 39) (g := (!(((x9 != x10) || (x13 != x14)) || (x17 != x18)))) (d := (some 56)) hD (by kernel_rfl) (by kernel_rfl) rfl (.no 37 54 true (((x9 != x10) || (x13 != x14)) || (x17 != x18)) rfl rfl rfl rfl) rfl (fun hg _ => q_move (v := .int .i64 (i_3)) rfl rfl) ?_
      obtain ⟨a19, ha19, h⟩ := h
      refine rd_gpure (i := 40) (g := (!(((x9 != x10) || (x13 != x14)) || (x17 != x18)))) (d := (some 57)) hD (by kernel_rfl) (by kernel_rfl) rfl (.no 37 54 true (((x9 != x10) || (x13 != x14)) || (x17 != x18)) rfl rfl rfl rfl) rfl (fun hg _ => q_indexAddr (s := l_1) (i := i_3) rfl Try.underlying33 ok36 (gvb_yes hg) (gvb_yes hg) (ha19 hg)) ?_
      refine rd_gpure (i := 41) (g := (!(((x9 != x10) || (x13 != x14)) || (x17 != x18)))) (d := (some 58)) hD (by kernel_rfl) (by kernel_rfl) rfl (.no 37 54 true (((x9 != x10) || (x13 != x14)) || (x17 != x18)) rfl rfl rfl rfl) rfl (fun hg _ => q_fieldAddr (a := a19) (off := 3) rfl Try.underlying36 rfl rfl ok9 (by decide) (gvb_yes hg)) ?_
      refine rd_gpure (i := 43) (g := (!(((x9 != x10) || (x13 != x14)) || (x17 != x18)))) (d := (some 60)) hD (by kernel_rfl) (by kernel_rfl) rfl (.no 37 54 true (((x9 != x10) || (x13 != x14)) || (x17 != x18)) rfl rfl rfl rfl) rfl (fun hg _ => q_move (v := tSlc.enc (m_2)) rfl rfl) ?_
      refine rd_gpure (i := 44) (g := (!(((x9 != x10) || (x13 != x14)) || (x17 != x18)))) (d := (some 61)) hD (by kernel_rfl) (by kernel_rfl) rfl (.no 37 54 true (((x9 != x10) || (x13 != x14)) || (x17 != x18)) rfl rfl rfl rfl) rfl (fun hg _ => q_move (v := .int .i64 (i_3)) rfl rfl) ?_
      obtain ⟨a20, ha20, h⟩ := h
      refine rd_gpure (i := 45) (g := (!(((x9 != x10) || (x13 != x14)) || (x17 != x18)))) (d := (some 62)) hD (by kernel_rfl) (by kernel_rfl) rfl (.no 37 54 true (((x9 != x10) || (x13 != x14)) || (x17 != x18)) rfl rfl rfl rfl) rfl (fun hg _ => q_indexAddr (s := m_2) (i := i_3) rfl Try.underlying47 ok75 (gvb_yes hg) (gvb_yes hg) (ha20 hg)) ?_
      refine rd_gpure (i := 46) (g := (!(((x9 != x10) || (x13 != x14)) || (x17 != x18)))) (d := (some 63)) hD (by kernel_rfl) (by kernel_rfl) rfl (.no 37 54 true (((x9 != x10) || (x13 != x14)) || (x17 != x18)) rfl rfl rfl rfl) rfl (fun hg _ => q_fieldAddr (a := a20) (off := 3) rfl Try.underlying75 rfl rfl ok9 (by decide) (gvb_yes hg)) ?_
      obtain ⟨x21, hx21, h⟩ := h
      refine rd_gread (i := 42) (g := (!(((x9 != x10) || (x13 != x14)) || (x17 != x18)))) (d := (some 59)) (fun W => (RdAt tStr (a19.add 3) W) x21) hD (by kernel_rfl) (by kernel_rfl) rfl (.no 37 54 true (((x9 != x10) || (x13 != x14)) || (x17 != x18)) rfl rfl rfl rfl) rfl (fun hg W hr => q_load (T := tStr) (u := x21) (a := (a19.add 3)) rfl ok9 (gvb_yes hg) hr) hx21 ?_
      obtain ⟨x22, hx22, h⟩ := h
      refine rd_gread (i := 47) (g := (!(((x9 != x10) || (x13 != x14)) || (x17 != x18)))) (d := (some 64)) (fun W => (RdAt tStr (a20.add 3) W) x22) hD (by kernel_rfl) (by kernel_rfl) rfl (.no 37 54 true (((x9 != x10) || (x13 != x14)) || (x17 != x18)) rfl rfl rfl rfl) rfl (fun hg W hr => q_load (T := tStr) (u := x22) (a := (a20.add 3)) rfl ok9 (gvb_yes hg) hr) hx22 ?_
      refine rd_gpure (i := 48) (g := (!(((x9 != x10) || (x13 != x14)) || (x17 != x18)))) (d := (some 65)) hD (by kernel_rfl) (by kernel_rfl) rfl (.no 37 54 true (((x9 != x10) || (x13 != x14)) || (x17 != x18)) rfl rfl rfl rfl) rfl (fun hg _ => q_neS (a := x21) (b := x22) rfl (gvb_yes hg) (gvb_yes hg)) ?_
      refine rd_pure (i := 49) (d := (some 66)) hD (by kernel_rfl) (by kernel_rfl) rfl (.free rfl) rfl (fun _ => q_pickGF (a := (((x9 != x10) || (x13 != x14)) || (x17 != x18))) (c := (!(x21 == x22))) rfl rfl rfl rfl) ?_
      refine rd_nil (by kernel_rfl) ?_
      refine wp_if (b := ((((x9 != x10) || (x13 != x14)) || (x17 != x18)) || (!(x21 == x22)))) rfl h (fun hb23 h => ?_) (fun hb23 h => ?_)
      · refine wp_seq ?_
        refine wp_text [0] rfl ?_
        refine ro_val (d := (some 4)) rfl (.free rfl) rfl (q_assign (v := .bool (false)) rfl rfl) ?_
        refine ro_nil ?_
        refine wp_ret ?_
        exact ret_ok rfl (.cons (.tmp (v := .bool (false)) rfl) .nil) ⟨false, rfl, h⟩
      · refine wp_skip ?_
        refine wp_text [0, 1, 2] rfl ?_
        refine ro_val (d := (some 15)) rfl (.free rfl) rfl (q_move (v := .int .i64 (i_3)) rfl rfl) ?_
        refine ro_val (d := (some 16)) rfl (.free rfl) rfl (q_add (a := i_3) (b := (1 : Int)) rfl rfl rfl) ?_
        refine ro_val (d := (some 5)) rfl (.free rfl) rfl (q_assign (v := .int .i64 ((IntKind.i64.wrap (i_3 + (1 : Int))))) rfl rfl) ?_
        refine ro_nil ?_
        exact ⟨((IntKind.i64.wrap (i_3 + (1 : Int)))), _, arr (upd_step (upd_step (upd_step rfl rfl) rfl) rfl), h⟩
    · refine wp_exit ?_
      refine wp_seq ?_
      refine wp_text [0] rfl ?_
      refine ro_val (d := (some 4)) rfl (.free rfl) rfl (q_assign (v := .bool (true)) rfl rfl) ?_
      refine ro_nil ?_
      refine wp_ret ?_
      exact ret_ok rfl (.cons (.tmp (v := .bool (true)) rfl) .nil) ⟨true, rfl, h⟩

-- moiety/post.New[int]
def F22 (nodes_1 : Int) (w : World) (R : ((Option Addr) × Int) → World → Prop) : Prop :=
  if ((decide (nodes_1 < (1 : Int))) || (decide (nodes_1 > (64 : Int)))) = true then (
    R ((none : Option Addr), (90 : Int)) w
  ) else (
    nwMap w fun m3 w2 =>
    nw 82 T81 (⟨nodes_1, (0 : Int), (⟨none, 0, 0⟩ : Slc), (some m3)⟩ : S81) w2 fun a4 w5 =>
    R ((some a4), (0 : Int)) w5
  )
theorem F22_ok {nodes_1 : Int} {w : World} {R : ((Option Addr) × Int) → World → Prop} (h : F22 nodes_1 w R) : cl Try.prog 22 [.int .i64 (nodes_1)] (tTup2 tPtr (tInt .i64)) w R := by
  unfold F22 at h
  refine calls_start 14 Try.func22 rfl rfl (Nat.le_of_ble_eq_true rfl) ?_
  refine wp_seq ?_
  refine wp_text [0, 1] rfl ?_
  refine ro_val (d := (some 2)) rfl (.free rfl) rfl (q_assign (v := .pointer ((none : Option Addr))) rfl rfl) ?_
  refine ro_val (d := (some 3)) rfl (.free rfl) rfl (q_assign (v := .int .i64 ((0 : Int))) rfl rfl) ?_
  refine ro_nil ?_
  refine wp_seq ?_
  refine wp_seq ?_
  refine wp_text [0, 1, 2, 3, 4, 5] rfl ?_
  refine ro_val (d := (some 4)) rfl (.free rfl) rfl (q_move (v := .int .i64 (nodes_1)) rfl rfl) ?_
  refine ro_val (d := (some 5)) rfl (.free rfl) rfl (q_lss (a := nodes_1) (b := (1 : Int)) rfl rfl rfl) ?_
  refine ro_val (d := (some 6)) rfl (.free rfl) rfl (q_move (v := .bool ((decide (nodes_1 < (1 : Int))))) rfl rfl) ?_
  refine ro_gval (g := (!(decide (nodes_1 < (1 : Int))))) (d := (some 7)) rfl (.no 2 6 true (decide (nodes_1 < (1 : Int))) rfl rfl rfl rfl) rfl (fun hg => q_move (v := .int .i64 (nodes_1)) rfl rfl) ?_
  refine ro_gval (g := (!(decide (nodes_1 < (1 : Int))))) (d := (some 8)) rfl (.no 2 6 true (decide (nodes_1 < (1 : Int))) rfl rfl rfl rfl) rfl (fun hg => q_gtr (a := nodes_1) (b := (64 : Int)) rfl (gvb_yes hg) rfl) ?_
  refine ro_val (d := (some 9)) rfl (.free rfl) rfl (q_pickGF (a := (decide (nodes_1 < (1 : Int)))) (c := (decide (nodes_1 > (64 : Int)))) rfl rfl rfl rfl) ?_
  refine ro_nil ?_
  refine wp_if (b := ((decide (nodes_1 < (1 : Int))) || (decide (nodes_1 > (64 : Int))))) rfl h (fun hb6 h => ?_) (fun hb6 h => ?_)
  · refine wp_seq ?_
    refine wp_text [0, 1] rfl ?_
    refine ro_val (d := (some 2)) rfl (.free rfl) rfl (q_assign (v := .pointer ((none : Option Addr))) rfl rfl) ?_
    refine ro_val (d := (some 3)) rfl (.free rfl) rfl (q_assign (v := .int .i64 ((90 : Int))) rfl rfl) ?_
    refine ro_nil ?_
    refine wp_ret ?_
    exact ret_ok rfl (.cons (.tmp (v := .pointer ((none : Option Addr))) rfl) (.cons (.tmp (v := .int .i64 ((90 : Int))) rfl) .nil)) ⟨((none : Option Addr), (90 : Int)), rfl, h⟩
  · refine wp_skip ?_
    refine wp_seq ?_
    refine wp_text [0, 1, 2, 3, 4, 5] rfl ?_
    refine ro_val (d := (some 10)) rfl (.free rfl) rfl (q_move (v := .int .i64 (nodes_1)) rfl rfl) ?_
    obtain ⟨m3, w2, hm3, hw2, h⟩ := nwMap_open h
    refine ro_val (d := (some 11)) rfl (.free rfl) rfl (q_makeMap rfl hm3 hw2) ?_
    refine ro_val (d := (some 12)) rfl (.free rfl) rfl (q_build82_0_3 (v0 := nodes_1) (v3 := (some m3)) rfl rfl rfl) ?_
    obtain ⟨a4, w5, ha4, hw5, h⟩ := nw_open h
    refine ro_val (d := (some 13)) rfl (.free rfl) rfl (q_box (u := (⟨nodes_1, (0 : Int), (⟨none, 0, 0⟩ : Slc), (some m3)⟩ : S81)) rfl ok82 rfl ha4 hw5) ?_
    refine ro_val (d := (some 2)) rfl (.free rfl) rfl (q_assign (v := .pointer (some a4)) rfl rfl) ?_
    refine ro_val (d := (some 3)) rfl (.free rfl) rfl (q_assign (v := .int .i64 ((0 : Int))) rfl rfl) ?_
    refine ro_nil ?_
    refine wp_ret ?_
    exact ret_ok rfl (.cons (.tmp (v := .pointer ((some a4))) rfl) (.cons (.tmp (v := .int .i64 ((0 : Int))) rfl) .nil)) ⟨((some a4), (0 : Int)), rfl, h⟩

end Go.Proofs.Ytpflfnaflacfgaa.Cf
