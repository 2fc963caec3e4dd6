/- Characteristic formulae of Go functions, and that they are. Printed by gen.py (own tool). -/
import Derived.Test.YtjkmeooncmhonaaTy
namespace Go.Proofs.Ytjkmeooncmhonaa.Cf
open Go
set_option maxRecDepth 100000
set_option maxHeartbeats 1000000
set_option linter.unusedVariables false
set_option linter.unusedSimpArgs false

-- moiety/moietylaw22.few
def F13_j2 (a2 : Addr) (a4 : Addr) (w7 : World) (R : S38 → World → Prop) : Prop :=
  ex (RdAt T38 a2 w7) fun x8 =>
  st T38 a4 x8 w7 fun w9 =>
  ex (RdAt T38 a4 w9) fun x10 =>
  R x10 w9
def F13_j1 (a2 : Addr) (a4 : Addr) (w6 : World) (R : S38 → World → Prop) : Prop :=
  ex (RdAt tStr (a2.add 4) w6) fun x11 =>
  if (decide ((x11.length : Int) > (1100 : Int))) = true then (
    ex (RdAt tStr (a2.add 4) w6) fun x12 =>
    ex (SubS x12 0 (1100 : Int)) fun s13 =>
    st tStr (a2.add 4) s13 w6 fun w14 =>
    F13_j2 a2 a4 w14 R
  ) else (
    F13_j2 a2 a4 w6 R
  )
def F13 (x_1 : S38) (w : World) (R : S38 → World → Prop) : Prop :=
  nw 39 T38 x_1 w fun a2 w3 =>
  nw 39 T38 Z38 w3 fun a4 w5 =>
  ex (RdAt tSlc (a2.add 5) w5) fun x16 =>
  if (decide ((x16.len : Int) > (4 : Int))) = true then (
    ex (RdAt tSlc (a2.add 5) w5) fun x17 =>
    ex (Sub x17 1 0 (4 : Int) ((x17).cap : Int)) fun s18 =>
    st tSlc (a2.add 5) s18 w5 fun w19 =>
    F13_j1 a2 a4 w19 R
  ) else (
    F13_j1 a2 a4 w5 R
  )
theorem F13_ok {x_1 : S38} {w : World} {R : S38 → World → Prop} (h : F13 x_1 w R) : cl Try.prog 13 [T38.enc (x_1)] T38 w R := by
  unfold F13 at h
  refine calls_start 20 Try.func13 rfl rfl (Nat.le_of_ble_eq_true rfl) ?_
  refine wp_seq ?_
  refine wp_text [0, 1] rfl ?_
  obtain ⟨a2, w3, ha2, hw3, h⟩ := nw_open h
  refine rv 1 rfl rfl rfl (q_box (u := x_1) rfl ok39 rfl ha2 hw3) ?_
  obtain ⟨a4, w5, ha4, hw5, h⟩ := nw_open h
  refine rv 2 rfl rfl rfl (q_alloc (u := Z38) rfl ok39 inf39 ha4 hw5) ?_
  refine ro_nil ?_
  refine seq_join (σ := Unit) (J := fun (s : Unit) w => F13_j1 a2 a4 w R) (fr := fun g (s : Unit) => upd (upd (g) 1 (.pointer (some a2))) 2 (.pointer (some a4))) ?_ ?_
  · rintro ⟨⟩ g w6 h
    unfold F13_j1 at h
    refine seq_join (σ := Unit) (J := fun (s : Unit) w => F13_j2 a2 a4 w R) (fr := fun g (s : Unit) => upd (upd (g) 1 (.pointer (some a2))) 2 (.pointer (some a4))) ?_ ?_
    · rintro ⟨⟩ g w7 h
      unfold F13_j2 at h
      refine wp_seq ?_
      refine wp_text [0, 1] rfl ?_
      obtain ⟨x8, hx8, h⟩ := h
      refine rv 19 rfl rfl rfl (q_load (T := T38) (u := x8) (a := a2) rfl ok39 rfl hx8) ?_
      obtain ⟨w9, hw9, hrw9, h⟩ := st_open h
      refine ro_skip (d := none) rfl (.free rfl) rfl (q_store (T := T38) (u := x8) (a := a4) rfl ok39 rfl rfl hrw9 hw9) ?_
      refine ro_nil ?_
      refine wp_ret ?_
      obtain ⟨x10, hx10, h⟩ := h
      exact ret_ok rfl (.cons (.cell (T := T38) (u := x10) (a := a4) ok39 rfl hx10) .nil) ⟨x10, rfl, h⟩
    · refine wp_seq ?_
      refine wp_text [0, 1, 2, 3] rfl ?_
      refine rv 11 rfl rfl rfl (q_fieldAddr (a := a2) (off := 4) rfl Try.underlying39 rfl rfl ok9 (by decide) rfl) ?_
      obtain ⟨x11, hx11, h⟩ := h
      refine rv 12 rfl rfl rfl (q_load (T := tStr) (u := x11) (a := (a2.add 4)) rfl ok9 rfl hx11) ?_
      refine rv 13 rfl rfl rfl (q_lenS (s := x11) rfl Try.underlying9 rfl) ?_
      refine rv 14 rfl rfl rfl (q_gtr (a := (x11.length : Int)) (b := (1100 : Int)) rfl rfl rfl) ?_
      refine ro_nil ?_
      refine wp_if (b := (decide ((x11.length : Int) > (1100 : Int)))) rfl h (fun hb15 h => ?_) (fun hb15 h => ?_)
      · refine wp_text [0, 1, 2, 3, 4] rfl ?_
        refine rv 15 rfl rfl rfl (q_fieldAddr (a := a2) (off := 4) rfl Try.underlying39 rfl rfl ok9 (by decide) rfl) ?_
        obtain ⟨x12, hx12, h⟩ := h
        refine rv 16 rfl rfl rfl (q_load (T := tStr) (u := x12) (a := (a2.add 4)) rfl ok9 rfl hx12) ?_
        obtain ⟨s13, hs13, h⟩ := h
        refine rv 17 rfl rfl rfl (q_subH (s := x12) (h := (1100 : Int)) rfl Try.underlying9 rfl rfl hs13) ?_
        refine rv 18 rfl rfl rfl (q_fieldAddr (a := a2) (off := 4) rfl Try.underlying39 rfl rfl ok9 (by decide) rfl) ?_
        obtain ⟨w14, hw14, hrw14, h⟩ := st_open h
        refine ro_skip (d := none) rfl (.free rfl) rfl (q_store (T := tStr) (u := s13) (a := (a2.add 4)) rfl ok9 rfl rfl hrw14 hw14) ?_
        refine ro_nil ?_
        exact ⟨(), _, arr (upd_step (upd_step rfl rfl) rfl), h⟩
      · refine wp_skip ?_
        exact ⟨(), _, arr (upd_step (upd_step rfl rfl) rfl), h⟩
  · refine wp_seq ?_
    refine wp_text [0, 1, 2, 3] rfl ?_
    refine rv 3 rfl rfl rfl (q_fieldAddr (a := a2) (off := 5) rfl Try.underlying39 rfl rfl ok37 (by decide) rfl) ?_
    obtain ⟨x16, hx16, h⟩ := h
    refine rv 4 rfl rfl rfl (q_load (T := tSlc) (u := x16) (a := (a2.add 5)) rfl ok37 rfl hx16) ?_
    refine rv 5 rfl rfl rfl (q_len (s := x16) rfl Try.underlying37 rfl) ?_
    refine rv 6 rfl rfl rfl (q_gtr (a := (x16.len : Int)) (b := (4 : Int)) rfl rfl rfl) ?_
    refine ro_nil ?_
    refine wp_if (b := (decide ((x16.len : Int) > (4 : Int)))) rfl h (fun hb20 h => ?_) (fun hb20 h => ?_)
    · refine wp_text [0, 1, 2, 3, 4] rfl ?_
      refine rv 7 rfl rfl rfl (q_fieldAddr (a := a2) (off := 5) rfl Try.underlying39 rfl rfl ok37 (by decide) rfl) ?_
      obtain ⟨x17, hx17, h⟩ := h
      refine rv 8 rfl rfl rfl (q_load (T := tSlc) (u := x17) (a := (a2.add 5)) rfl ok37 rfl hx17) ?_
      obtain ⟨s18, hs18, h⟩ := h
      refine rv 9 rfl rfl rfl (q_sliceH (s := x17) (h := (4 : Int)) rfl Try.underlying37 ok3 rfl rfl hs18) ?_
      refine rv 10 rfl rfl rfl (q_fieldAddr (a := a2) (off := 5) rfl Try.underlying39 rfl rfl ok37 (by decide) rfl) ?_
      obtain ⟨w19, hw19, hrw19, h⟩ := st_open h
      refine ro_skip (d := none) rfl (.free rfl) rfl (q_store (T := tSlc) (u := s18) (a := (a2.add 5)) rfl ok37 rfl rfl hrw19 hw19) ?_
      refine ro_nil ?_
      exact ⟨(), _, arr (upd_step (upd_step rfl rfl) rfl), h⟩
    · refine wp_skip ?_
      exact ⟨(), _, arr (upd_step (upd_step rfl rfl) rfl), h⟩

-- (*moiety/ballot.Acceptor).Prepare
def F14_j1 (a_1 : (Option Addr)) (w5 : World) (R : (Slc × Int) → World → Prop) : Prop :=
  cl Try.prog 17 [.pointer (a_1)] tSlc w5 fun r7 w6 =>
  R (r7, (0 : Int)) w6
def F14 (a_1 : (Option Addr)) (b_2 : Int) (w : World) (R : (Slc × Int) → World → Prop) : Prop :=
  cl Try.prog 26 [.pointer (a_1), .int .i64 (b_2)] (tInt .i64) w fun r4 w3 =>
  if (r4 != (0 : Int)) = true then (
    R ((⟨none, 0, 0⟩ : Slc), r4) w3
  ) else (
    ex (NC a_1) fun a8 =>
    ex (RdAt (tInt .i64) (a8.add 1) w3) fun x9 =>
    if (decide (b_2 > x9)) = true then (
      nwS 91 T90 [(⟨(1 : Int), (1 : Int), (0 : Int), (0 : Nat), ([] : List UInt8)⟩ : S90), (⟨(2 : Int), (0 : Int), b_2, (0 : Nat), ([] : List UInt8)⟩ : S90)] w3 fun a10 w11 =>
      cl Try.prog 27 [.pointer (a_1), tSlc.enc ((⟨some a10, 2, 2⟩ : Slc))] (tInt .i64) w11 fun r13 w12 =>
      if (r13 != (0 : Int)) = true then (
        R ((⟨none, 0, 0⟩ : Slc), r13) w12
      ) else (
        st (tInt .i64) (a8.add 1) b_2 w12 fun w14 =>
        F14_j1 a_1 w14 R
      )
    ) else (
      F14_j1 a_1 w3 R
    )
  )
theorem F14_ok {a_1 : (Option Addr)} {b_2 : Int} {w : World} {R : (Slc × Int) → World → Prop} (h : F14 a_1 b_2 w R) : cl Try.prog 14 [.pointer (a_1), .int .i64 (b_2)] (tTup2 tSlc (tInt .i64)) w R := by
  unfold F14 at h
  refine calls_start 35 Try.func14 rfl rfl (Nat.le_of_ble_eq_true rfl) ?_
  refine wp_seq ?_
  refine wp_text [0, 1] rfl ?_
  refine rv 4 rfl rfl rfl (q_assign (v := tSlc.enc ((⟨none, 0, 0⟩ : Slc))) rfl rfl) ?_
  refine rv 5 rfl rfl rfl (q_assign (v := .int .i64 ((0 : Int))) rfl rfl) ?_
  refine ro_nil ?_
  refine wp_seq ?_
  refine wp_seq ?_
  refine wp_text [0, 1, 2, 3] rfl ?_
  refine rv 8 rfl rfl rfl (q_move (v := .pointer (a_1)) rfl rfl) ?_
  refine rv 9 rfl rfl rfl (q_move (v := .int .i64 (b_2)) rfl rfl) ?_
  refine ro_wp rfl (.free rfl) (wp_cl (d := (some 10)) rfl (q_call (k := 26) (l := [.pointer (a_1), .int .i64 (b_2)]) rfl ent26 rfl) h ?_)
  intro r4 w3 h
  refine rv 6 rfl rfl rfl (q_assign (v := .int .i64 (r4)) rfl rfl) ?_
  refine ro_nil ?_
  refine wp_seq ?_
  refine wp_text [0, 1] rfl ?_
  refine rv 11 rfl rfl rfl (q_move (v := .int .i64 (r4)) rfl rfl) ?_
  refine rv 12 rfl rfl rfl (q_neq (a := r4) (b := (0 : Int)) rfl rfl rfl) ?_
  refine ro_nil ?_
  refine wp_if (b := (r4 != (0 : Int))) rfl h (fun hb17 h => ?_) (fun hb17 h => ?_)
  · refine wp_seq ?_
    refine wp_text [0, 1, 2] rfl ?_
    refine rv 13 rfl rfl rfl (q_move (v := .int .i64 (r4)) rfl rfl) ?_
    refine rv 4 rfl rfl rfl (q_assign (v := tSlc.enc ((⟨none, 0, 0⟩ : Slc))) rfl rfl) ?_
    refine rv 5 rfl rfl rfl (q_assign (v := .int .i64 (r4)) rfl rfl) ?_
    refine ro_nil ?_
    refine wp_ret ?_
    exact ret_ok rfl (.cons (.tmp (v := tSlc.enc ((⟨none, 0, 0⟩ : Slc))) rfl) (.cons (.tmp (v := .int .i64 (r4)) rfl) .nil)) ⟨((⟨none, 0, 0⟩ : Slc), r4), rfl, h⟩
  · refine wp_skip ?_
    refine seq_join (σ := Unit) (J := fun (s : Unit) w => F14_j1 a_1 w R) (fr := fun g (s : Unit) => upd (g) 0 (.pointer (a_1))) ?_ ?_
    · rintro ⟨⟩ g w5 h
      unfold F14_j1 at h
      refine wp_seq ?_
      refine wp_text [0, 1, 2, 3] rfl ?_
      refine rv 33 rfl rfl rfl (q_move (v := .pointer (a_1)) rfl rfl) ?_
      refine ro_wp rfl (.free rfl) (wp_cl (d := (some 34)) rfl (q_call (k := 17) (l := [.pointer (a_1)]) rfl ent17 rfl) h ?_)
      intro r7 w6 h
      refine rv 4 rfl rfl rfl (q_assign (v := tSlc.enc (r7)) rfl rfl) ?_
      refine rv 5 rfl rfl rfl (q_assign (v := .int .i64 ((0 : Int))) rfl rfl) ?_
      refine ro_nil ?_
      refine wp_ret ?_
      exact ret_ok rfl (.cons (.tmp (v := tSlc.enc (r7)) rfl) (.cons (.tmp (v := .int .i64 ((0 : Int))) rfl) .nil)) ⟨(r7, (0 : Int)), rfl, h⟩
    · refine wp_seq ?_
      refine wp_text [0, 1, 2, 3, 4, 5] rfl ?_
      refine rv 14 rfl rfl rfl (q_move (v := .int .i64 (b_2)) rfl rfl) ?_
      refine rv 15 rfl rfl rfl (q_move (v := .pointer (a_1)) rfl rfl) ?_
      obtain ⟨a8, ha8, h⟩ := h
      refine rv 16 rfl rfl rfl (q_nilCheck (a := a8) rfl (congrArg Value.pointer ha8)) ?_
      refine rv 17 rfl rfl rfl (q_fieldAddr (a := a8) (off := 1) rfl Try.underlying53 rfl rfl ok2 (by decide) rfl) ?_
      obtain ⟨x9, hx9, h⟩ := h
      refine rv 18 rfl rfl rfl (q_load (T := (tInt .i64)) (u := x9) (a := (a8.add 1)) rfl ok2 rfl hx9) ?_
      refine rv 19 rfl rfl rfl (q_gtr (a := b_2) (b := x9) rfl rfl rfl) ?_
      refine ro_nil ?_
      refine wp_if (b := (decide (b_2 > x9))) rfl h (fun hb16 h => ?_) (fun hb16 h => ?_)
      · refine wp_seq ?_
        refine wp_seq ?_
        refine wp_text [0, 1, 2, 3, 4, 5, 6] rfl ?_
        refine rv 20 rfl rfl rfl (q_move (v := .pointer (a_1)) rfl rfl) ?_
        refine rv 21 rfl rfl rfl (q_build91_0_1 (v0 := (1 : Int)) (v1 := (1 : Int)) rfl rfl rfl) ?_
        refine rv 22 rfl rfl rfl (q_move (v := .int .i64 (b_2)) rfl rfl) ?_
        refine rv 23 rfl rfl rfl (q_build91_0_2 (v0 := (2 : Int)) (v2 := b_2) rfl rfl rfl) ?_
        obtain ⟨a10, w11, ha10, hw11, h⟩ := nwS_open h
        refine rv 24 rfl rfl rfl (q_rowOf (T := T90) (xs := [(⟨(1 : Int), (1 : Int), (0 : Int), (0 : Nat), ([] : List UInt8)⟩ : S90), (⟨(2 : Int), (0 : Int), b_2, (0 : Nat), ([] : List UInt8)⟩ : S90)]) rfl Try.underlying113 ok91 inf91 rfl (by decide) (by decide) rfl ha10 hw11) ?_
        refine ro_wp rfl (.free rfl) (wp_cl (d := (some 25)) rfl (q_call (k := 27) (l := [.pointer (a_1), tSlc.enc ((⟨some a10, 2, 2⟩ : Slc))]) rfl ent27 rfl) h ?_)
        intro r13 w12 h
        refine rv 7 rfl rfl rfl (q_assign (v := .int .i64 (r13)) rfl rfl) ?_
        refine ro_nil ?_
        refine wp_seq ?_
        refine wp_text [0, 1] rfl ?_
        refine rv 26 rfl rfl rfl (q_move (v := .int .i64 (r13)) rfl rfl) ?_
        refine rv 27 rfl rfl rfl (q_neq (a := r13) (b := (0 : Int)) rfl rfl rfl) ?_
        refine ro_nil ?_
        refine wp_if (b := (r13 != (0 : Int))) rfl h (fun hb15 h => ?_) (fun hb15 h => ?_)
        · refine wp_seq ?_
          refine wp_text [0, 1, 2] rfl ?_
          refine rv 28 rfl rfl rfl (q_move (v := .int .i64 (r13)) rfl rfl) ?_
          refine rv 4 rfl rfl rfl (q_assign (v := tSlc.enc ((⟨none, 0, 0⟩ : Slc))) rfl rfl) ?_
          refine rv 5 rfl rfl rfl (q_assign (v := .int .i64 (r13)) rfl rfl) ?_
          refine ro_nil ?_
          refine wp_ret ?_
          exact ret_ok rfl (.cons (.tmp (v := tSlc.enc ((⟨none, 0, 0⟩ : Slc))) rfl) (.cons (.tmp (v := .int .i64 (r13)) rfl) .nil)) ⟨((⟨none, 0, 0⟩ : Slc), r13), rfl, h⟩
        · refine wp_skip ?_
          refine wp_text [0, 1, 2, 3, 4] rfl ?_
          refine rv 29 rfl rfl rfl (q_move (v := .pointer (a_1)) rfl rfl) ?_
          refine rv 30 rfl rfl rfl (q_move (v := .int .i64 (b_2)) rfl rfl) ?_
          refine rv 31 rfl rfl rfl (q_nilCheck (a := a8) rfl (congrArg Value.pointer ha8)) ?_
          refine rv 32 rfl rfl rfl (q_fieldAddr (a := a8) (off := 1) rfl Try.underlying53 rfl rfl ok2 (by decide) rfl) ?_
          obtain ⟨w14, hw14, hrw14, h⟩ := st_open h
          refine ro_skip (d := none) rfl (.free rfl) rfl (q_store (T := (tInt .i64)) (u := b_2) (a := (a8.add 1)) rfl ok2 rfl rfl hrw14 hw14) ?_
          refine ro_nil ?_
          exact ⟨(), _, arr (upd_step rfl rfl), h⟩
      · refine wp_skip ?_
        exact ⟨(), _, arr (upd_step rfl rfl), h⟩

-- (*moiety/ballot.Acceptor).Promised
def F15 (a_1 : (Option Addr)) (w : World) (R : Int → World → Prop) : Prop :=
  ex (NC a_1) fun a2 =>
  ex (RdAt (tInt .i64) (a2.add 1) w) fun x3 =>
  R x3 w
theorem F15_ok {a_1 : (Option Addr)} {w : World} {R : Int → World → Prop} (h : F15 a_1 w R) : cl Try.prog 15 [.pointer (a_1)] (tInt .i64) w R := by
  unfold F15 at h
  refine calls_start 7 Try.func15 rfl rfl (Nat.le_of_ble_eq_true rfl) ?_
  refine wp_seq ?_
  refine wp_text [0] rfl ?_
  refine rv 2 rfl rfl rfl (q_assign (v := .int .i64 ((0 : Int))) rfl rfl) ?_
  refine ro_nil ?_
  refine wp_seq ?_
  refine wp_text [0, 1, 2, 3, 4] rfl ?_
  refine rv 3 rfl rfl rfl (q_move (v := .pointer (a_1)) rfl rfl) ?_
  obtain ⟨a2, ha2, h⟩ := h
  refine rv 4 rfl rfl rfl (q_nilCheck (a := a2) rfl (congrArg Value.pointer ha2)) ?_
  refine rv 5 rfl rfl rfl (q_fieldAddr (a := a2) (off := 1) rfl Try.underlying53 rfl rfl ok2 (by decide) rfl) ?_
  obtain ⟨x3, hx3, h⟩ := h
  refine rv 6 rfl rfl rfl (q_load (T := (tInt .i64)) (u := x3) (a := (a2.add 1)) rfl ok2 rfl hx3) ?_
  refine rv 2 rfl rfl rfl (q_assign (v := .int .i64 (x3)) rfl rfl) ?_
  refine ro_nil ?_
  refine wp_ret ?_
  exact ret_ok rfl (.cons (.tmp (v := .int .i64 (x3)) rfl) .nil) ⟨x3, rfl, h⟩

-- (*moiety/ballot.Acceptor).Accept
def F16_j1 (r21 : Int) (w22 : World) (R : Int → World → Prop) : Prop :=
  R r21 w22
def F16 (a_1 : (Option Addr)) (b_2 : Int) (n_3 : Int) (v_4 : (List UInt8)) (w : World) (R : Int → World → Prop) : Prop :=
  cl Try.prog 26 [.pointer (a_1), .int .i64 (b_2)] (tInt .i64) w fun r6 w5 =>
  ex (NC a_1) fun a7 =>
  ex (RdAt tMap (a7.add 2) w5) fun x8 =>
  ex (MapGet T46 .i64 x8 n_3 w5) fun m9 =>
  nw 47 T46 Z46 w5 fun a10 w11 =>
  st T46 a10 (((m9.getD Z46, m9.isSome)).1) w11 fun w12 =>
  if (r6 == (231 : Int)) = true then (
    R r6 w12
  ) else (
    cl Try.prog 28 [.int .i64 (n_3)] tBool w12 fun r14 w13 =>
    if (!r14) = true then (
      R (232 : Int) w13
    ) else (
      if (decide ((v_4.length : Int) > (1000 : Int))) = true then (
        R (233 : Int) w13
      ) else (
        if (r6 != (0 : Int)) = true then (
          R r6 w13
        ) else (
          ex (fun x => (((m9.getD Z46, m9.isSome)).2) = true → (RdAt (tInt .i64) (a10.add 1) w13) x) fun x15 =>
          ex (fun x => (((m9.getD Z46, m9.isSome)).2 && (x15 == b_2)) = true → (RdAt tStr (a10.add 2) w13) x) fun x16 =>
          if ((((m9.getD Z46, m9.isSome)).2 && (x15 == b_2)) && (!(x16 == v_4))) = true then (
            R (235 : Int) w13
          ) else (
            ex (fun x => (((m9.getD Z46, m9.isSome)).2) = true → (RdAt (tInt .i64) (a10.add 1) w13) x) fun x17 =>
            if (((m9.getD Z46, m9.isSome)).2 && (x17 == b_2)) = true then (
              R (0 : Int) w13
            ) else (
              nwS 91 T90 [(⟨(1 : Int), (2 : Int), (0 : Int), (0 : Nat), ([] : List UInt8)⟩ : S90), (⟨(2 : Int), (0 : Int), b_2, (0 : Nat), ([] : List UInt8)⟩ : S90), (⟨(2 : Int), (0 : Int), n_3, (0 : Nat), ([] : List UInt8)⟩ : S90), (⟨(4 : Int), (0 : Int), (0 : Int), (0 : Nat), v_4⟩ : S90)] w13 fun a18 w19 =>
              cl Try.prog 27 [.pointer (a_1), tSlc.enc ((⟨some a18, 4, 4⟩ : Slc))] (tInt .i64) w19 fun r21 w20 =>
              if (r21 == (0 : Int)) = true then (
                cl Try.prog 29 [.pointer (a_1), T46.enc ((⟨n_3, b_2, v_4⟩ : S46))] tUnit w20 fun r24 w23 =>
                F16_j1 r21 w23 R
              ) else (
                F16_j1 r21 w20 R
              )
            )
          )
        )
      )
    )
  )
theorem F16_ok {a_1 : (Option Addr)} {b_2 : Int} {n_3 : Int} {v_4 : (List UInt8)} {w : World} {R : Int → World → Prop} (h : F16 a_1 b_2 n_3 v_4 w R) : cl Try.prog 16 [.pointer (a_1), .int .i64 (b_2), .int .i64 (n_3), .string ⟨(v_4).toArray⟩] (tInt .i64) w R := by
  unfold F16 at h
  refine calls_start 81 Try.func16 rfl rfl (Nat.le_of_ble_eq_true rfl) ?_
  refine wp_seq ?_
  refine wp_text [0] rfl ?_
  refine rv 8 rfl rfl rfl (q_assign (v := .int .i64 ((0 : Int))) rfl rfl) ?_
  refine ro_nil ?_
  refine wp_seq ?_
  refine wp_text [0, 1, 2, 3] rfl ?_
  refine rv 12 rfl rfl rfl (q_move (v := .pointer (a_1)) rfl rfl) ?_
  refine rv 13 rfl rfl rfl (q_move (v := .int .i64 (b_2)) rfl rfl) ?_
  refine ro_wp rfl (.free rfl) (wp_cl (d := (some 14)) rfl (q_call (k := 26) (l := [.pointer (a_1), .int .i64 (b_2)]) rfl ent26 rfl) h ?_)
  intro r6 w5 h
  refine rv 9 rfl rfl rfl (q_assign (v := .int .i64 (r6)) rfl rfl) ?_
  refine ro_nil ?_
  refine wp_seq ?_
  refine wp_text [0, 1, 2, 3, 4, 5, 6, 7, 8, 9, 10, 11] rfl ?_
  refine rv 16 rfl rfl rfl (q_move (v := .pointer (a_1)) rfl rfl) ?_
  obtain ⟨a7, ha7, h⟩ := h
  refine rv 17 rfl rfl rfl (q_nilCheck (a := a7) rfl (congrArg Value.pointer ha7)) ?_
  refine rv 18 rfl rfl rfl (q_fieldAddr (a := a7) (off := 2) rfl Try.underlying53 rfl rfl ok51 (by decide) rfl) ?_
  obtain ⟨x8, hx8, h⟩ := h
  refine rv 19 rfl rfl rfl (q_load (T := tMap) (u := x8) (a := (a7.add 2)) rfl ok51 rfl hx8) ?_
  refine rv 20 rfl rfl rfl (q_move (v := .int .i64 (n_3)) rfl rfl) ?_
  obtain ⟨m9, hm9, h⟩ := h
  refine rv 21 rfl rfl rfl (q_lookup2 (T := T46) (r := x8) (key := n_3) (u := m9) (z := Z46) rfl Try.underlying51 Try.underlying3 (inf47) rfl rfl hm9) ?_
  refine rv 15 rfl rfl rfl (q_move (v := (tTup2 T46 tBool).enc (((m9.getD Z46, m9.isSome)))) rfl rfl) ?_
  refine rv 22 rfl rfl rfl (q_extract (vs := #[T46.enc (((m9.getD Z46, m9.isSome)).1), .bool (((m9.getD Z46, m9.isSome)).2)]) (v := T46.enc (((m9.getD Z46, m9.isSome)).1)) rfl rfl rfl) ?_
  refine rv 23 rfl rfl rfl (q_extract (vs := #[T46.enc (((m9.getD Z46, m9.isSome)).1), .bool (((m9.getD Z46, m9.isSome)).2)]) (v := .bool (((m9.getD Z46, m9.isSome)).2)) rfl rfl rfl) ?_
  obtain ⟨a10, w11, ha10, hw11, h⟩ := nw_open h
  refine rv 10 rfl rfl rfl (q_alloc (u := Z46) rfl ok47 inf47 ha10 hw11) ?_
  obtain ⟨w12, hw12, hrw12, h⟩ := st_open h
  refine ro_skip (d := none) rfl (.free rfl) rfl (q_store (T := T46) (u := ((m9.getD Z46, m9.isSome)).1) (a := a10) rfl ok47 rfl rfl hrw12 hw12) ?_
  refine rv 11 rfl rfl rfl (q_assign (v := .bool (((m9.getD Z46, m9.isSome)).2)) rfl rfl) ?_
  refine ro_nil ?_
  refine wp_seq ?_
  refine wp_block ?_
  refine wp_seq ?_
  refine wp_text [0, 1, 2] rfl ?_
  refine rv 25 rfl rfl rfl (q_move (v := .int .i64 (r6)) rfl rfl) ?_
  refine rv 26 rfl rfl rfl (q_eql (a := r6) (b := (231 : Int)) rfl rfl rfl) ?_
  refine rv 24 rfl rfl rfl (q_assign (v := .bool ((r6 == (231 : Int)))) rfl rfl) ?_
  refine ro_nil ?_
  refine wp_if (b := (r6 == (231 : Int))) rfl h (fun hb31 h => ?_) (fun hb31 h => ?_)
  · refine wp_seq ?_
    refine wp_text [0, 1] rfl ?_
    refine rv 27 rfl rfl rfl (q_move (v := .int .i64 (r6)) rfl rfl) ?_
    refine rv 8 rfl rfl rfl (q_assign (v := .int .i64 (r6)) rfl rfl) ?_
    refine ro_nil ?_
    refine wp_ret ?_
    exact ret_ok rfl (.cons (.tmp (v := .int .i64 (r6)) rfl) .nil) ⟨r6, rfl, h⟩
  · refine wp_seq ?_
    refine wp_text [0, 1, 2, 3] rfl ?_
    refine rv 29 rfl rfl rfl (q_move (v := .int .i64 (n_3)) rfl rfl) ?_
    refine ro_wp rfl (.free rfl) (wp_cl (d := (some 30)) rfl (q_call (k := 28) (l := [.int .i64 (n_3)]) rfl ent28 rfl) h ?_)
    intro r14 w13 h
    refine rv 31 rfl rfl rfl (q_not (b := r14) rfl rfl) ?_
    refine rv 28 rfl rfl rfl (q_assign (v := .bool ((!r14))) rfl rfl) ?_
    refine ro_nil ?_
    refine wp_if (b := (!r14)) rfl h (fun hb30 h => ?_) (fun hb30 h => ?_)
    · refine wp_seq ?_
      refine wp_text [0] rfl ?_
      refine rv 8 rfl rfl rfl (q_assign (v := .int .i64 ((232 : Int))) rfl rfl) ?_
      refine ro_nil ?_
      refine wp_ret ?_
      exact ret_ok rfl (.cons (.tmp (v := .int .i64 ((232 : Int))) rfl) .nil) ⟨(232 : Int), rfl, h⟩
    · refine wp_seq ?_
      refine wp_text [0, 1, 2, 3] rfl ?_
      refine rv 33 rfl rfl rfl (q_move (v := .string ⟨(v_4).toArray⟩) rfl rfl) ?_
      refine rv 34 rfl rfl rfl (q_lenS (s := v_4) rfl Try.underlying9 rfl) ?_
      refine rv 35 rfl rfl rfl (q_gtr (a := (v_4.length : Int)) (b := (1000 : Int)) rfl rfl rfl) ?_
      refine rv 32 rfl rfl rfl (q_assign (v := .bool ((decide ((v_4.length : Int) > (1000 : Int))))) rfl rfl) ?_
      refine ro_nil ?_
      refine wp_if (b := (decide ((v_4.length : Int) > (1000 : Int)))) rfl h (fun hb29 h => ?_) (fun hb29 h => ?_)
      · refine wp_seq ?_
        refine wp_text [0] rfl ?_
        refine rv 8 rfl rfl rfl (q_assign (v := .int .i64 ((233 : Int))) rfl rfl) ?_
        refine ro_nil ?_
        refine wp_ret ?_
        exact ret_ok rfl (.cons (.tmp (v := .int .i64 ((233 : Int))) rfl) .nil) ⟨(233 : Int), rfl, h⟩
      · refine wp_seq ?_
        refine wp_text [0, 1, 2] rfl ?_
        refine rv 37 rfl rfl rfl (q_move (v := .int .i64 (r6)) rfl rfl) ?_
        refine rv 38 rfl rfl rfl (q_neq (a := r6) (b := (0 : Int)) rfl rfl rfl) ?_
        refine rv 36 rfl rfl rfl (q_assign (v := .bool ((r6 != (0 : Int)))) rfl rfl) ?_
        refine ro_nil ?_
        refine wp_if (b := (r6 != (0 : Int))) rfl h (fun hb28 h => ?_) (fun hb28 h => ?_)
        · refine wp_seq ?_
          refine wp_text [0, 1] rfl ?_
          refine rv 39 rfl rfl rfl (q_move (v := .int .i64 (r6)) rfl rfl) ?_
          refine rv 8 rfl rfl rfl (q_assign (v := .int .i64 (r6)) rfl rfl) ?_
          refine ro_nil ?_
          refine wp_ret ?_
          exact ret_ok rfl (.cons (.tmp (v := .int .i64 (r6)) rfl) .nil) ⟨r6, rfl, h⟩
        · refine wp_seq ?_
          refine wp_text [0, 1, 2, 3, 4, 5, 6, 7, 8, 9, 10, 11, 12, 13] rfl ?_
          refine rv 41 rfl rfl rfl (q_move (v := .bool (((m9.getD Z46, m9.isSome)).2)) rfl rfl) ?_
          refine rv 42 rfl rfl rfl (q_move (v := .bool (((m9.getD Z46, m9.isSome)).2)) rfl rfl) ?_
          refine ro_gval (g := ((m9.getD Z46, m9.isSome)).2) (d := (some 43)) rfl (.yes 1 42 true (((m9.getD Z46, m9.isSome)).2) rfl rfl rfl rfl) rfl (fun hg => q_fieldAddr (a := a10) (off := 1) rfl Try.underlying47 rfl rfl ok2 (by decide) rfl) ?_
          obtain ⟨x15, hx15, h⟩ := h
          refine ro_gval (g := ((m9.getD Z46, m9.isSome)).2) (d := (some 44)) rfl (.yes 1 42 true (((m9.getD Z46, m9.isSome)).2) rfl rfl rfl rfl) rfl (fun hg => q_load (T := (tInt .i64)) (u := x15) (a := (a10.add 1)) rfl ok2 (gvb_yes hg) (hx15 hg)) ?_
          refine ro_gval (g := ((m9.getD Z46, m9.isSome)).2) (d := (some 45)) rfl (.yes 1 42 true (((m9.getD Z46, m9.isSome)).2) rfl rfl rfl rfl) rfl (fun hg => q_move (v := .int .i64 (b_2)) rfl rfl) ?_
          refine ro_gval (g := ((m9.getD Z46, m9.isSome)).2) (d := (some 46)) rfl (.yes 1 42 true (((m9.getD Z46, m9.isSome)).2) rfl rfl rfl rfl) rfl (fun hg => q_eql (a := x15) (b := b_2) rfl (gvb_yes hg) (gvb_yes hg)) ?_
          refine rv 47 rfl rfl rfl (q_pickGT (a := ((m9.getD Z46, m9.isSome)).2) (b := (x15 == b_2)) rfl rfl rfl rfl) ?_
          refine rv 48 rfl rfl rfl (q_move (v := .bool ((((m9.getD Z46, m9.isSome)).2 && (x15 == b_2)))) rfl rfl) ?_
          refine ro_gval (g := (((m9.getD Z46, m9.isSome)).2 && (x15 == b_2))) (d := (some 49)) rfl (.yes 7 48 true (((m9.getD Z46, m9.isSome)).2 && (x15 == b_2)) rfl rfl rfl rfl) rfl (fun hg => q_fieldAddr (a := a10) (off := 2) rfl Try.underlying47 rfl rfl ok9 (by decide) rfl) ?_
          obtain ⟨x16, hx16, h⟩ := h
          refine ro_gval (g := (((m9.getD Z46, m9.isSome)).2 && (x15 == b_2))) (d := (some 50)) rfl (.yes 7 48 true (((m9.getD Z46, m9.isSome)).2 && (x15 == b_2)) rfl rfl rfl rfl) rfl (fun hg => q_load (T := tStr) (u := x16) (a := (a10.add 2)) rfl ok9 (gvb_yes hg) (hx16 hg)) ?_
          refine ro_gval (g := (((m9.getD Z46, m9.isSome)).2 && (x15 == b_2))) (d := (some 51)) rfl (.yes 7 48 true (((m9.getD Z46, m9.isSome)).2 && (x15 == b_2)) rfl rfl rfl rfl) rfl (fun hg => q_move (v := .string ⟨(v_4).toArray⟩) rfl rfl) ?_
          refine ro_gval (g := (((m9.getD Z46, m9.isSome)).2 && (x15 == b_2))) (d := (some 52)) rfl (.yes 7 48 true (((m9.getD Z46, m9.isSome)).2 && (x15 == b_2)) rfl rfl rfl rfl) rfl (fun hg => q_neS (a := x16) (b := v_4) rfl (gvb_yes hg) (gvb_yes hg)) ?_
          refine rv 53 rfl rfl rfl (q_pickGT (a := (((m9.getD Z46, m9.isSome)).2 && (x15 == b_2))) (b := (!(x16 == v_4))) rfl rfl rfl rfl) ?_
          refine rv 40 rfl rfl rfl (q_assign (v := .bool (((((m9.getD Z46, m9.isSome)).2 && (x15 == b_2)) && (!(x16 == v_4))))) rfl rfl) ?_
          refine ro_nil ?_
          refine wp_if (b := ((((m9.getD Z46, m9.isSome)).2 && (x15 == b_2)) && (!(x16 == v_4)))) rfl h (fun hb27 h => ?_) (fun hb27 h => ?_)
          · refine wp_seq ?_
            refine wp_text [0] rfl ?_
            refine rv 8 rfl rfl rfl (q_assign (v := .int .i64 ((235 : Int))) rfl rfl) ?_
            refine ro_nil ?_
            refine wp_ret ?_
            exact ret_ok rfl (.cons (.tmp (v := .int .i64 ((235 : Int))) rfl) .nil) ⟨(235 : Int), rfl, h⟩
          · refine wp_seq ?_
            refine wp_text [0, 1, 2, 3, 4, 5, 6, 7] rfl ?_
            refine rv 55 rfl rfl rfl (q_move (v := .bool (((m9.getD Z46, m9.isSome)).2)) rfl rfl) ?_
            refine rv 56 rfl rfl rfl (q_move (v := .bool (((m9.getD Z46, m9.isSome)).2)) rfl rfl) ?_
            refine ro_gval (g := ((m9.getD Z46, m9.isSome)).2) (d := (some 57)) rfl (.yes 1 56 true (((m9.getD Z46, m9.isSome)).2) rfl rfl rfl rfl) rfl (fun hg => q_fieldAddr (a := a10) (off := 1) rfl Try.underlying47 rfl rfl ok2 (by decide) rfl) ?_
            obtain ⟨x17, hx17, h⟩ := h
            refine ro_gval (g := ((m9.getD Z46, m9.isSome)).2) (d := (some 58)) rfl (.yes 1 56 true (((m9.getD Z46, m9.isSome)).2) rfl rfl rfl rfl) rfl (fun hg => q_load (T := (tInt .i64)) (u := x17) (a := (a10.add 1)) rfl ok2 (gvb_yes hg) (hx17 hg)) ?_
            refine ro_gval (g := ((m9.getD Z46, m9.isSome)).2) (d := (some 59)) rfl (.yes 1 56 true (((m9.getD Z46, m9.isSome)).2) rfl rfl rfl rfl) rfl (fun hg => q_move (v := .int .i64 (b_2)) rfl rfl) ?_
            refine ro_gval (g := ((m9.getD Z46, m9.isSome)).2) (d := (some 60)) rfl (.yes 1 56 true (((m9.getD Z46, m9.isSome)).2) rfl rfl rfl rfl) rfl (fun hg => q_eql (a := x17) (b := b_2) rfl (gvb_yes hg) (gvb_yes hg)) ?_
            refine rv 61 rfl rfl rfl (q_pickGT (a := ((m9.getD Z46, m9.isSome)).2) (b := (x17 == b_2)) rfl rfl rfl rfl) ?_
            refine rv 54 rfl rfl rfl (q_assign (v := .bool ((((m9.getD Z46, m9.isSome)).2 && (x17 == b_2)))) rfl rfl) ?_
            refine ro_nil ?_
            refine wp_if (b := (((m9.getD Z46, m9.isSome)).2 && (x17 == b_2))) rfl h (fun hb26 h => ?_) (fun hb26 h => ?_)
            · refine wp_seq ?_
              refine wp_text [0] rfl ?_
              refine rv 8 rfl rfl rfl (q_assign (v := .int .i64 ((0 : Int))) rfl rfl) ?_
              refine ro_nil ?_
              refine wp_ret ?_
              exact ret_ok rfl (.cons (.tmp (v := .int .i64 ((0 : Int))) rfl) .nil) ⟨(0 : Int), rfl, h⟩
            · refine wp_skip ?_
              refine wp_seq ?_
              refine wp_text [0, 1, 2, 3, 4, 5, 6, 7, 8, 9, 10] rfl ?_
              refine rv 62 rfl rfl rfl (q_move (v := .pointer (a_1)) rfl rfl) ?_
              refine rv 63 rfl rfl rfl (q_build91_0_1 (v0 := (1 : Int)) (v1 := (2 : Int)) rfl rfl rfl) ?_
              refine rv 64 rfl rfl rfl (q_move (v := .int .i64 (b_2)) rfl rfl) ?_
              refine rv 65 rfl rfl rfl (q_build91_0_2 (v0 := (2 : Int)) (v2 := b_2) rfl rfl rfl) ?_
              refine rv 66 rfl rfl rfl (q_move (v := .int .i64 (n_3)) rfl rfl) ?_
              refine rv 67 rfl rfl rfl (q_build91_0_2 (v0 := (2 : Int)) (v2 := n_3) rfl rfl rfl) ?_
              refine rv 68 rfl rfl rfl (q_move (v := .string ⟨(v_4).toArray⟩) rfl rfl) ?_
              refine rv 69 rfl rfl rfl (q_build91_0_4 (v0 := (4 : Int)) (v4 := v_4) rfl rfl rfl) ?_
              obtain ⟨a18, w19, ha18, hw19, h⟩ := nwS_open h
              refine rv 70 rfl rfl rfl (q_rowOf (T := T90) (xs := [(⟨(1 : Int), (2 : Int), (0 : Int), (0 : Nat), ([] : List UInt8)⟩ : S90), (⟨(2 : Int), (0 : Int), b_2, (0 : Nat), ([] : List UInt8)⟩ : S90), (⟨(2 : Int), (0 : Int), n_3, (0 : Nat), ([] : List UInt8)⟩ : S90), (⟨(4 : Int), (0 : Int), (0 : Int), (0 : Nat), v_4⟩ : S90)]) rfl Try.underlying113 ok91 inf91 rfl (by decide) (by decide) rfl ha18 hw19) ?_
              refine ro_wp rfl (.free rfl) (wp_cl (d := (some 71)) rfl (q_call (k := 27) (l := [.pointer (a_1), tSlc.enc ((⟨some a18, 4, 4⟩ : Slc))]) rfl ent27 rfl) h ?_)
              intro r21 w20 h
              refine rv 9 rfl rfl rfl (q_assign (v := .int .i64 (r21)) rfl rfl) ?_
              refine ro_nil ?_
              refine seq_join (σ := Unit) (J := fun (s : Unit) w => F16_j1 r21 w R) (fr := fun g (s : Unit) => upd (g) 9 (.int .i64 (r21))) ?_ ?_
              · rintro ⟨⟩ g w22 h
                unfold F16_j1 at h
                refine wp_seq ?_
                refine wp_text [0, 1] rfl ?_
                refine rv 80 rfl rfl rfl (q_move (v := .int .i64 (r21)) rfl rfl) ?_
                refine rv 8 rfl rfl rfl (q_assign (v := .int .i64 (r21)) rfl rfl) ?_
                refine ro_nil ?_
                refine wp_ret ?_
                exact ret_ok rfl (.cons (.tmp (v := .int .i64 (r21)) rfl) .nil) ⟨r21, rfl, h⟩
              · refine wp_seq ?_
                refine wp_text [0, 1] rfl ?_
                refine rv 72 rfl rfl rfl (q_move (v := .int .i64 (r21)) rfl rfl) ?_
                refine rv 73 rfl rfl rfl (q_eql (a := r21) (b := (0 : Int)) rfl rfl rfl) ?_
                refine ro_nil ?_
                refine wp_if (b := (r21 == (0 : Int))) rfl h (fun hb25 h => ?_) (fun hb25 h => ?_)
                · refine wp_text [0, 1, 2, 3, 4, 5] rfl ?_
                  refine rv 74 rfl rfl rfl (q_move (v := .pointer (a_1)) rfl rfl) ?_
                  refine rv 75 rfl rfl rfl (q_move (v := .int .i64 (n_3)) rfl rfl) ?_
                  refine rv 76 rfl rfl rfl (q_move (v := .int .i64 (b_2)) rfl rfl) ?_
                  refine rv 77 rfl rfl rfl (q_move (v := .string ⟨(v_4).toArray⟩) rfl rfl) ?_
                  refine rv 78 rfl rfl rfl (q_build47_0_1_2 (v0 := n_3) (v1 := b_2) (v2 := v_4) rfl rfl rfl rfl) ?_
                  refine ro_wp rfl (.free rfl) (wp_cl (d := (some 79)) rfl (q_call (k := 29) (l := [.pointer (a_1), T46.enc ((⟨n_3, b_2, v_4⟩ : S46))]) rfl ent29 rfl) h ?_)
                  intro r24 w23 h
                  refine ro_nil ?_
                  exact ⟨(), _, arr (upd_step rfl rfl), h⟩
                · refine wp_skip ?_
                  exact ⟨(), _, arr (upd_step rfl rfl), h⟩

-- (*moiety/ballot.Acceptor).Votes
def F17 (a_1 : (Option Addr)) (w : World) (R : Slc → World → Prop) : Prop :=
  ex (NC a_1) fun a2 =>
  ex (RdAt tMap (a2.add 2) w) fun x3 =>
  cl Try.prog 22 [.map (x3)] tSlc w fun r5 w4 =>
  R r5 w4
theorem F17_ok {a_1 : (Option Addr)} {w : World} {R : Slc → World → Prop} (h : F17 a_1 w R) : cl Try.prog 17 [.pointer (a_1)] tSlc w R := by
  unfold F17 at h
  refine calls_start 8 Try.func17 rfl rfl (Nat.le_of_ble_eq_true rfl) ?_
  refine wp_seq ?_
  refine wp_text [0] rfl ?_
  refine rv 2 rfl rfl rfl (q_assign (v := tSlc.enc ((⟨none, 0, 0⟩ : Slc))) rfl rfl) ?_
  refine ro_nil ?_
  refine wp_seq ?_
  refine wp_text [0, 1, 2, 3, 4, 5] rfl ?_
  refine rv 3 rfl rfl rfl (q_move (v := .pointer (a_1)) rfl rfl) ?_
  obtain ⟨a2, ha2, h⟩ := h
  refine rv 4 rfl rfl rfl (q_nilCheck (a := a2) rfl (congrArg Value.pointer ha2)) ?_
  refine rv 5 rfl rfl rfl (q_fieldAddr (a := a2) (off := 2) rfl Try.underlying53 rfl rfl ok51 (by decide) rfl) ?_
  obtain ⟨x3, hx3, h⟩ := h
  refine rv 6 rfl rfl rfl (q_load (T := tMap) (u := x3) (a := (a2.add 2)) rfl ok51 rfl hx3) ?_
  refine ro_wp rfl (.free rfl) (wp_cl (d := (some 7)) rfl (q_call (k := 22) (l := [.map (x3)]) rfl ent22 rfl) h ?_)
  intro r5 w4 h
  refine rv 2 rfl rfl rfl (q_assign (v := tSlc.enc (r5)) rfl rfl) ?_
  refine ro_nil ?_
  refine wp_ret ?_
  exact ret_ok rfl (.cons (.tmp (v := tSlc.enc (r5)) rfl) .nil) ⟨r5, rfl, h⟩

-- (*moiety/wal.Wal).Sync
def F18_j1 (r10 : Int) (w13 : World) (R : Int → World → Prop) : Prop :=
  R r10 w13
def F18 (w_1 : (Option Addr)) (w : World) (R : Int → World → Prop) : Prop :=
  ex (NC w_1) fun a2 =>
  ex (RdAt tBool (a2.add 4) w) fun x3 =>
  if x3 = true then (
    R (81 : Int) w
  ) else (
    dr w fun w4 =>
    ex (RdAt tPtr (a2.add 2) w4) fun x5 =>
    ex (RdAt (tInt .i64) (a2.add 3) w4) fun x6 =>
    cl Try.prog 31 [.pointer (x5), .int .i64 (x6)] (tInt .i64) w4 fun r8 w7 =>
    cl Try.prog 30 [.pointer (w_1), .int .i64 (r8)] (tInt .i64) w7 fun r10 w9 =>
    kp ((RdAt tPtr (a2.add 2) w9) x5) <|
    kp ((RdAt (tInt .i64) (a2.add 3) w9) x6) <|
    if (r10 == (0 : Int)) = true then (
      ex (RdAt (tInt .i64) ((a2.add 0).add 0) w9) fun x14 =>
      st (tInt .i64) ((a2.add 0).add 1) x14 w9 fun w15 =>
      F18_j1 r10 w15 R
    ) else (
      F18_j1 r10 w9 R
    )
  )
theorem F18_ok {w_1 : (Option Addr)} {w : World} {R : Int → World → Prop} (h : F18 w_1 w R) : cl Try.prog 18 [.pointer (w_1)] (tInt .i64) w R := by
  unfold F18 at h
  refine calls_start 31 Try.func18 rfl rfl (Nat.le_of_ble_eq_true rfl) ?_
  refine wp_seq ?_
  refine wp_text [0] rfl ?_
  refine rv 2 rfl rfl rfl (q_assign (v := .int .i64 ((0 : Int))) rfl rfl) ?_
  refine ro_nil ?_
  refine wp_seq ?_
  refine wp_seq ?_
  refine wp_text [0, 1, 2, 3] rfl ?_
  refine rv 4 rfl rfl rfl (q_move (v := .pointer (w_1)) rfl rfl) ?_
  obtain ⟨a2, ha2, h⟩ := h
  refine rv 5 rfl rfl rfl (q_nilCheck (a := a2) rfl (congrArg Value.pointer ha2)) ?_
  refine rv 6 rfl rfl rfl (q_fieldAddr (a := a2) (off := 4) rfl Try.underlying97 rfl rfl ok4 (by decide) rfl) ?_
  obtain ⟨x3, hx3, h⟩ := h
  refine rv 7 rfl rfl rfl (q_load (T := tBool) (u := x3) (a := (a2.add 4)) rfl ok4 rfl hx3) ?_
  refine ro_nil ?_
  refine wp_if (b := x3) rfl h (fun hb17 h => ?_) (fun hb17 h => ?_)
  · refine wp_seq ?_
    refine wp_text [0] rfl ?_
    refine rv 2 rfl rfl rfl (q_assign (v := .int .i64 ((81 : Int))) rfl rfl) ?_
    refine ro_nil ?_
    refine wp_ret ?_
    exact ret_ok rfl (.cons (.tmp (v := .int .i64 ((81 : Int))) rfl) .nil) ⟨(81 : Int), rfl, h⟩
  · refine wp_skip ?_
    refine wp_seq ?_
    obtain ⟨w4, hw4, h⟩ := dr_open h
    refine wp_drawn 12 mixed rfl (by kernel_rfl) (by intro c a d v w h; cases d <;> exact h) hw4 (fun hD => ?_)
    refine rp 0 8 hD rfl rfl rfl (fun _ => q_move (v := .pointer (w_1)) rfl rfl) ?_
    refine rp 1 9 hD rfl rfl rfl (fun _ => q_move (v := .pointer (w_1)) rfl rfl) ?_
    refine rp 2 10 hD rfl rfl rfl (fun _ => q_nilCheck (a := a2) rfl (congrArg Value.pointer ha2)) ?_
    refine rp 3 11 hD rfl rfl rfl (fun _ => q_fieldAddr (a := a2) (off := 2) rfl Try.underlying97 rfl rfl ok30 (by decide) rfl) ?_
    refine rp 5 13 hD rfl rfl rfl (fun _ => q_move (v := .pointer (w_1)) rfl rfl) ?_
    refine rp 6 14 hD rfl rfl rfl (fun _ => q_nilCheck (a := a2) rfl (congrArg Value.pointer ha2)) ?_
    refine rp 7 15 hD rfl rfl rfl (fun _ => q_fieldAddr (a := a2) (off := 3) rfl Try.underlying97 rfl rfl ok3 (by decide) rfl) ?_
    obtain ⟨x5, hx5, h⟩ := h
    refine rd_read (i := 4) (d := (some 12)) (fun W => (RdAt tPtr (a2.add 2) W) x5) hD (by kernel_rfl) (by kernel_rfl) rfl (.free rfl) rfl (fun W hr => q_load (T := tPtr) (u := x5) (a := (a2.add 2)) rfl ok30 rfl hr) hx5 ?_
    obtain ⟨x6, hx6, h⟩ := h
    refine rd_read (i := 8) (d := (some 16)) (fun W => (RdAt (tInt .i64) (a2.add 3) W) x6) hD (by kernel_rfl) (by kernel_rfl) rfl (.free rfl) rfl (fun W hr => q_load (T := (tInt .i64)) (u := x6) (a := (a2.add 3)) rfl ok3 rfl hr) hx6 ?_
    refine rd_one (i := 9) (by kernel_rfl) ?_
    refine po_wp rfl (.free rfl) (wp_cl (d := (some 17)) rfl (q_call (k := 31) (l := [.pointer (x5), .int .i64 (x6)]) rfl ent31 rfl) h ?_)
    intro r8 w7 h
    refine ⟨(hk_wait (by kernel_rfl) (hk_wait (by kernel_rfl) hk_nil)), ?_⟩
    refine rd_one (i := 10) (by kernel_rfl) ?_
    refine po_wp rfl (.free rfl) (wp_cl (d := (some 18)) rfl (q_call (k := 30) (l := [.pointer (w_1), .int .i64 (r8)]) rfl ent30 rfl) h ?_)
    intro r10 w9 h
    obtain ⟨hk11, h⟩ := h
    obtain ⟨hk12, h⟩ := h
    refine ⟨(hk_keep (fun _ => hk12) (hk_keep (fun _ => hk11) hk_nil)), ?_⟩
    refine rp 11 3 hD rfl rfl rfl (fun _ => q_assign (v := .int .i64 (r10)) rfl rfl) ?_
    refine rd_nil (by kernel_rfl) ?_
    refine seq_join (σ := Unit) (J := fun (s : Unit) w => F18_j1 r10 w R) (fr := fun g (s : Unit) => upd (g) 3 (.int .i64 (r10))) ?_ ?_
    · rintro ⟨⟩ g w13 h
      unfold F18_j1 at h
      refine wp_seq ?_
      refine wp_text [0, 1] rfl ?_
      refine rv 30 rfl rfl rfl (q_move (v := .int .i64 (r10)) rfl rfl) ?_
      refine rv 2 rfl rfl rfl (q_assign (v := .int .i64 (r10)) rfl rfl) ?_
      refine ro_nil ?_
      refine wp_ret ?_
      exact ret_ok rfl (.cons (.tmp (v := .int .i64 (r10)) rfl) .nil) ⟨r10, rfl, h⟩
    · refine wp_seq ?_
      refine wp_text [0, 1] rfl ?_
      refine rv 19 rfl rfl rfl (q_move (v := .int .i64 (r10)) rfl rfl) ?_
      refine rv 20 rfl rfl rfl (q_eql (a := r10) (b := (0 : Int)) rfl rfl rfl) ?_
      refine ro_nil ?_
      refine wp_if (b := (r10 == (0 : Int))) rfl h (fun hb16 h => ?_) (fun hb16 h => ?_)
      · refine wp_text [0, 1, 2, 3, 4, 5, 6, 7, 8, 9] rfl ?_
        refine rv 21 rfl rfl rfl (q_move (v := .pointer (w_1)) rfl rfl) ?_
        refine rv 22 rfl rfl rfl (q_move (v := .pointer (w_1)) rfl rfl) ?_
        refine rv 23 rfl rfl rfl (q_nilCheck (a := a2) rfl (congrArg Value.pointer ha2)) ?_
        refine rv 24 rfl rfl rfl (q_fieldAddr (a := a2) (off := 0) rfl Try.underlying97 rfl rfl ok95 (by decide) rfl) ?_
        refine rv 25 rfl rfl rfl (q_fieldAddr (a := (a2.add 0)) (off := 0) rfl Try.underlying95 rfl rfl ok3 (by decide) rfl) ?_
        obtain ⟨x14, hx14, h⟩ := h
        refine rv 26 rfl rfl rfl (q_load (T := (tInt .i64)) (u := x14) (a := ((a2.add 0).add 0)) rfl ok3 rfl hx14) ?_
        refine rv 27 rfl rfl rfl (q_nilCheck (a := a2) rfl (congrArg Value.pointer ha2)) ?_
        refine rv 28 rfl rfl rfl (q_fieldAddr (a := a2) (off := 0) rfl Try.underlying97 rfl rfl ok95 (by decide) rfl) ?_
        refine rv 29 rfl rfl rfl (q_fieldAddr (a := (a2.add 0)) (off := 1) rfl Try.underlying95 rfl rfl ok3 (by decide) rfl) ?_
        obtain ⟨w15, hw15, hrw15, h⟩ := st_open h
        refine ro_skip (d := none) rfl (.free rfl) rfl (q_store (T := (tInt .i64)) (u := x14) (a := ((a2.add 0).add 1)) rfl ok3 rfl rfl hrw15 hw15) ?_
        refine ro_nil ?_
        exact ⟨(), _, arr (upd_step rfl rfl), h⟩
      · refine wp_skip ?_
        exact ⟨(), _, arr (upd_step rfl rfl), h⟩

-- (*moiety/disk.Disk).Crash
def F19_j2 (t_8 : Int) (a12 : Addr) (n_14 : Int) (w15 : World) (K10 : Int → World → Prop) (R : Unit → World → Prop) : Prop :=
  ex (RdAt tSlc (a12.add 0) w15) fun x16 =>
  ex (Sub x16 1 0 n_14 n_14) fun s17 =>
  st tSlc (a12.add 0) s17 w15 fun w18 =>
  st (tInt .i64) (a12.add 1) n_14 w18 fun w19 =>
  K10 ((IntKind.i64.wrap (t_8 + (1 : Int)))) w19
def F19_l1 (keep_2 : Slc) (a3 : Addr) (x7 : Slc) (t_8 : Int) (w9 : World) (K10 : Int → World → Prop) (R : Unit → World → Prop) : Prop :=
  if (decide (t_8 < (x7.len : Int))) = true then (
    ex (RdAt tSlc (a3.add 0) w9) fun x11 =>
    ex (IxA x11 2 t_8) fun a12 =>
    ex (RdAt (tInt .i64) (a12.add 1) w9) fun x13 =>
    if (decide (t_8 < (keep_2.len : Int))) = true then (
      dr w9 fun w20 =>
      ex (IxA keep_2 1 t_8) fun a21 =>
      ex (RdAt (tInt .i64) a21 w20) fun x22 =>
      ex (RdAt tSlc (a12.add 0) w20) fun x23 =>
      ex (RdAt (tInt .i64) (a12.add 1) w20) fun x24 =>
      F19_j2 t_8 a12 (IntKind.i64.wrap (x13 + (min (max x22 (0 : Int)) (IntKind.i64.wrap ((x23.len : Int) - x24))))) w20 K10 R
    ) else (
      F19_j2 t_8 a12 x13 w9 K10 R
    )
  ) else (
    R () w9
  )
def F19 (d_1 : (Option Addr)) (keep_2 : Slc) (w : World) (R : Unit → World → Prop) : Prop :=
  ex (NC d_1) fun a3 =>
  ex (RdAt tBool (a3.add 2) w) fun x4 =>
  if x4 = true then (
    R () w
  ) else (
    st tBool (a3.add 2) true w fun w5 =>
    st (tInt .i64) (a3.add 3) (0 : Int) w5 fun w6 =>
    ex (RdAt tSlc (a3.add 0) w6) fun x7 =>
    lp (fun (s : Int) w K => F19_l1 keep_2 a3 x7 s w K R) ((0 : Int)) w6
  )
theorem F19_ok {d_1 : (Option Addr)} {keep_2 : Slc} {w : World} {R : Unit → World → Prop} (h : F19 d_1 keep_2 w R) : cl Try.prog 19 [.pointer (d_1), tSlc.enc (keep_2)] tUnit w R := by
  unfold F19 at h
  refine calls_start 72 Try.func19 rfl rfl (Nat.le_of_ble_eq_true rfl) ?_
  refine wp_seq ?_
  refine wp_seq ?_
  refine wp_text [0, 1, 2, 3] rfl ?_
  refine rv 7 rfl rfl rfl (q_move (v := .pointer (d_1)) rfl rfl) ?_
  obtain ⟨a3, ha3, h⟩ := h
  refine rv 8 rfl rfl rfl (q_nilCheck (a := a3) rfl (congrArg Value.pointer ha3)) ?_
  refine rv 9 rfl rfl rfl (q_fieldAddr (a := a3) (off := 2) rfl Try.underlying80 rfl rfl ok4 (by decide) rfl) ?_
  obtain ⟨x4, hx4, h⟩ := h
  refine rv 10 rfl rfl rfl (q_load (T := tBool) (u := x4) (a := (a3.add 2)) rfl ok4 rfl hx4) ?_
  refine ro_nil ?_
  refine wp_if (b := x4) rfl h (fun hb27 h => ?_) (fun hb27 h => ?_)
  · refine wp_ret ?_
    exact ret_ok rfl .nil ⟨(), rfl, h⟩
  · refine wp_skip ?_
    refine wp_seq ?_
    refine wp_text [0, 1, 2, 3, 4, 5, 6, 7] rfl ?_
    refine rv 11 rfl rfl rfl (q_move (v := .pointer (d_1)) rfl rfl) ?_
    refine rv 12 rfl rfl rfl (q_move (v := .pointer (d_1)) rfl rfl) ?_
    refine rv 13 rfl rfl rfl (q_nilCheck (a := a3) rfl (congrArg Value.pointer ha3)) ?_
    refine rv 14 rfl rfl rfl (q_fieldAddr (a := a3) (off := 2) rfl Try.underlying80 rfl rfl ok4 (by decide) rfl) ?_
    obtain ⟨w5, hw5, hrw5, h⟩ := st_open h
    refine ro_skip (d := none) rfl (.free rfl) rfl (q_store (T := tBool) (u := true) (a := (a3.add 2)) rfl ok4 rfl rfl hrw5 hw5) ?_
    refine rv 15 rfl rfl rfl (q_nilCheck (a := a3) rfl (congrArg Value.pointer ha3)) ?_
    refine rv 16 rfl rfl rfl (q_fieldAddr (a := a3) (off := 3) rfl Try.underlying80 rfl rfl ok3 (by decide) rfl) ?_
    obtain ⟨w6, hw6, hrw6, h⟩ := st_open h
    refine ro_skip (d := none) rfl (.free rfl) rfl (q_store (T := (tInt .i64)) (u := (0 : Int)) (a := (a3.add 3)) rfl ok3 rfl rfl hrw6 hw6) ?_
    refine ro_nil ?_
    refine wp_seq ?_
    refine wp_text [0, 1, 2, 3, 4, 5] rfl ?_
    refine rv 17 rfl rfl rfl (q_move (v := .pointer (d_1)) rfl rfl) ?_
    refine rv 18 rfl rfl rfl (q_nilCheck (a := a3) rfl (congrArg Value.pointer ha3)) ?_
    refine rv 19 rfl rfl rfl (q_fieldAddr (a := a3) (off := 0) rfl Try.underlying80 rfl rfl ok78 (by decide) rfl) ?_
    obtain ⟨x7, hx7, h⟩ := h
    refine rv 20 rfl rfl rfl (q_load (T := tSlc) (u := x7) (a := (a3.add 0)) rfl ok78 rfl hx7) ?_
    refine rv 21 rfl rfl rfl (q_len (s := x7) rfl Try.underlying78 rfl) ?_
    refine rv 22 rfl rfl rfl (q_move (v := .int .i64 ((0 : Int))) rfl rfl) ?_
    refine ro_nil ?_
    refine wp_block ?_
    refine loop_at (σ := Int) (fr := fun g (s : Int) => upd (upd (upd (upd (g) 0 (.pointer (d_1))) 1 (tSlc.enc (keep_2))) 21 (.int .i64 ((x7.len : Int)))) 22 (.int .i64 (s))) (s0 := ((0 : Int))) (upd_step (upd_step (upd_step (upd_step rfl rfl) rfl) rfl) rfl) h ?_
    rintro t_8 g w9 K10 h
    unfold F19_l1 at h
    refine wp_seq ?_
    refine wp_text [0] rfl ?_
    refine rv 23 rfl rfl rfl (q_lss (a := t_8) (b := (x7.len : Int)) rfl rfl rfl) ?_
    refine ro_nil ?_
    refine wp_seq ?_
    refine wp_if (b := (decide (t_8 < (x7.len : Int)))) rfl h (fun hb26 h => ?_) (fun hb26 h => ?_)
    · refine wp_skip ?_
      refine wp_seq ?_
      refine wp_block ?_
      refine wp_seq ?_
      refine wp_text [0, 1] rfl ?_
      refine rv 24 rfl rfl rfl (q_move (v := .int .i64 (t_8)) rfl rfl) ?_
      refine rv 4 rfl rfl rfl (q_assign (v := .int .i64 (t_8)) rfl rfl) ?_
      refine ro_nil ?_
      refine wp_seq ?_
      refine wp_text [0, 1, 2, 3, 4, 5, 6] rfl ?_
      refine rv 25 rfl rfl rfl (q_move (v := .pointer (d_1)) rfl rfl) ?_
      refine rv 26 rfl rfl rfl (q_nilCheck (a := a3) rfl (congrArg Value.pointer ha3)) ?_
      refine rv 27 rfl rfl rfl (q_fieldAddr (a := a3) (off := 0) rfl Try.underlying80 rfl rfl ok78 (by decide) rfl) ?_
      obtain ⟨x11, hx11, h⟩ := h
      refine rv 28 rfl rfl rfl (q_load (T := tSlc) (u := x11) (a := (a3.add 0)) rfl ok78 rfl hx11) ?_
      refine rv 29 rfl rfl rfl (q_move (v := .int .i64 (t_8)) rfl rfl) ?_
      obtain ⟨a12, ha12, h⟩ := h
      refine rv 30 rfl rfl rfl (q_indexAddr (s := x11) (i := t_8) rfl Try.underlying78 ok102 rfl rfl ha12) ?_
      refine rv 5 rfl rfl rfl (q_assign (v := .pointer (some a12)) rfl rfl) ?_
      refine ro_nil ?_
      refine wp_seq ?_
      refine wp_text [0, 1, 2, 3, 4] rfl ?_
      refine rv 31 rfl rfl rfl (q_move (v := .pointer ((some a12))) rfl rfl) ?_
      refine rv 32 rfl rfl rfl (q_nilCheck (a := a12) rfl rfl) ?_
      refine rv 33 rfl rfl rfl (q_fieldAddr (a := a12) (off := 1) rfl Try.underlying102 rfl rfl ok3 (by decide) rfl) ?_
      obtain ⟨x13, hx13, h⟩ := h
      refine rv 34 rfl rfl rfl (q_load (T := (tInt .i64)) (u := x13) (a := (a12.add 1)) rfl ok3 rfl hx13) ?_
      refine rv 6 rfl rfl rfl (q_assign (v := .int .i64 (x13)) rfl rfl) ?_
      refine ro_nil ?_
      refine seq_join (σ := Int) (J := fun (s : Int) w => F19_j2 t_8 a12 s w K10 R) (fr := fun g (s : Int) => upd (upd (upd (upd (upd (upd (g) 0 (.pointer (d_1))) 1 (tSlc.enc (keep_2))) 5 (.pointer ((some a12)))) 21 (.int .i64 ((x7.len : Int)))) 22 (.int .i64 (t_8))) 6 (.int .i64 (s))) ?_ ?_
      · rintro n_14 g w15 h
        unfold F19_j2 at h
        refine wp_text [0, 1, 2, 3, 4, 5, 6, 7, 8, 9, 10, 11, 12, 13, 14, 15] rfl ?_
        refine rv 57 rfl rfl rfl (q_move (v := .pointer ((some a12))) rfl rfl) ?_
        refine rv 58 rfl rfl rfl (q_move (v := .pointer ((some a12))) rfl rfl) ?_
        refine rv 59 rfl rfl rfl (q_move (v := .pointer ((some a12))) rfl rfl) ?_
        refine rv 60 rfl rfl rfl (q_nilCheck (a := a12) rfl rfl) ?_
        refine rv 61 rfl rfl rfl (q_fieldAddr (a := a12) (off := 0) rfl Try.underlying102 rfl rfl ok72 (by decide) rfl) ?_
        obtain ⟨x16, hx16, h⟩ := h
        refine rv 62 rfl rfl rfl (q_load (T := tSlc) (u := x16) (a := (a12.add 0)) rfl ok72 rfl hx16) ?_
        refine rv 63 rfl rfl rfl (q_move (v := .int .i64 (n_14)) rfl rfl) ?_
        refine rv 64 rfl rfl rfl (q_move (v := .int .i64 (n_14)) rfl rfl) ?_
        obtain ⟨s17, hs17, h⟩ := h
        refine rv 65 rfl rfl rfl (q_sliceHM (s := x16) (h := n_14) (m := n_14) rfl Try.underlying72 ok5 rfl rfl rfl hs17) ?_
        refine rv 66 rfl rfl rfl (q_move (v := .int .i64 (n_14)) rfl rfl) ?_
        refine rv 67 rfl rfl rfl (q_nilCheck (a := a12) rfl rfl) ?_
        refine rv 68 rfl rfl rfl (q_fieldAddr (a := a12) (off := 0) rfl Try.underlying102 rfl rfl ok72 (by decide) rfl) ?_
        obtain ⟨w18, hw18, hrw18, h⟩ := st_open h
        refine ro_skip (d := none) rfl (.free rfl) rfl (q_store (T := tSlc) (u := s17) (a := (a12.add 0)) rfl ok72 rfl rfl hrw18 hw18) ?_
        refine rv 69 rfl rfl rfl (q_nilCheck (a := a12) rfl rfl) ?_
        refine rv 70 rfl rfl rfl (q_fieldAddr (a := a12) (off := 1) rfl Try.underlying102 rfl rfl ok3 (by decide) rfl) ?_
        obtain ⟨w19, hw19, hrw19, h⟩ := st_open h
        refine ro_skip (d := none) rfl (.free rfl) rfl (q_store (T := (tInt .i64)) (u := n_14) (a := (a12.add 1)) rfl ok3 rfl rfl hrw19 hw19) ?_
        refine ro_nil ?_
        refine wp_text [0, 1] rfl ?_
        refine rv 71 rfl rfl rfl (q_add (a := t_8) (b := (1 : Int)) rfl rfl rfl) ?_
        refine rv 22 rfl rfl rfl (q_move (v := .int .i64 ((IntKind.i64.wrap (t_8 + (1 : Int))))) rfl rfl) ?_
        refine ro_nil ?_
        exact ⟨((IntKind.i64.wrap (t_8 + (1 : Int)))), _, arr (upd_step (upd_step (upd_step (upd_step rfl rfl) rfl) rfl) rfl), h⟩
      · refine wp_seq ?_
        refine wp_text [0, 1, 2, 3] rfl ?_
        refine rv 35 rfl rfl rfl (q_move (v := .int .i64 (t_8)) rfl rfl) ?_
        refine rv 36 rfl rfl rfl (q_move (v := tSlc.enc (keep_2)) rfl rfl) ?_
        refine rv 37 rfl rfl rfl (q_len (s := keep_2) rfl Try.underlying37 rfl) ?_
        refine rv 38 rfl rfl rfl (q_lss (a := t_8) (b := (keep_2.len : Int)) rfl rfl rfl) ?_
        refine ro_nil ?_
        refine wp_if (b := (decide (t_8 < (keep_2.len : Int)))) rfl h (fun hb25 h => ?_) (fun hb25 h => ?_)
        · obtain ⟨w20, hw20, h⟩ := dr_open h
          refine wp_drawn 19 mixed rfl (by kernel_rfl) (by intro c a d v w h; cases d <;> exact h) hw20 (fun hD => ?_)
          refine rp 0 39 hD rfl rfl rfl (fun _ => q_move (v := .int .i64 (x13)) rfl rfl) ?_
          refine rp 1 40 hD rfl rfl rfl (fun _ => q_move (v := tSlc.enc (keep_2)) rfl rfl) ?_
          refine rp 2 41 hD rfl rfl rfl (fun _ => q_move (v := .int .i64 (t_8)) rfl rfl) ?_
          obtain ⟨a21, ha21, h⟩ := h
          refine rp 3 42 hD rfl rfl rfl (fun _ => q_indexAddr (s := keep_2) (i := t_8) rfl Try.underlying37 ok3 rfl rfl ha21) ?_
          refine rp 6 45 hD rfl rfl rfl (fun _ => q_move (v := .pointer ((some a12))) rfl rfl) ?_
          refine rp 7 46 hD rfl rfl rfl (fun _ => q_nilCheck (a := a12) rfl rfl) ?_
          refine rp 8 47 hD rfl rfl rfl (fun _ => q_fieldAddr (a := a12) (off := 0) rfl Try.underlying102 rfl rfl ok72 (by decide) rfl) ?_
          refine rp 11 50 hD rfl rfl rfl (fun _ => q_move (v := .pointer ((some a12))) rfl rfl) ?_
          refine rp 12 51 hD rfl rfl rfl (fun _ => q_nilCheck (a := a12) rfl rfl) ?_
          refine rp 13 52 hD rfl rfl rfl (fun _ => q_fieldAddr (a := a12) (off := 1) rfl Try.underlying102 rfl rfl ok3 (by decide) rfl) ?_
          obtain ⟨x22, hx22, h⟩ := h
          refine rd_read (i := 4) (d := (some 43)) (fun W => (RdAt (tInt .i64) a21 W) x22) hD (by kernel_rfl) (by kernel_rfl) rfl (.free rfl) rfl (fun W hr => q_load (T := (tInt .i64)) (u := x22) (a := a21) rfl ok3 rfl hr) hx22 ?_
          refine rp 5 44 hD rfl rfl rfl (fun _ => q_max (a := x22) (b := (0 : Int)) rfl rfl rfl) ?_
          obtain ⟨x23, hx23, h⟩ := h
          refine rd_read (i := 9) (d := (some 48)) (fun W => (RdAt tSlc (a12.add 0) W) x23) hD (by kernel_rfl) (by kernel_rfl) rfl (.free rfl) rfl (fun W hr => q_load (T := tSlc) (u := x23) (a := (a12.add 0)) rfl ok72 rfl hr) hx23 ?_
          refine rp 10 49 hD rfl rfl rfl (fun _ => q_len (s := x23) rfl Try.underlying72 rfl) ?_
          obtain ⟨x24, hx24, h⟩ := h
          refine rd_read (i := 14) (d := (some 53)) (fun W => (RdAt (tInt .i64) (a12.add 1) W) x24) hD (by kernel_rfl) (by kernel_rfl) rfl (.free rfl) rfl (fun W hr => q_load (T := (tInt .i64)) (u := x24) (a := (a12.add 1)) rfl ok3 rfl hr) hx24 ?_
          refine rp 15 54 hD rfl rfl rfl (fun _ => q_sub (a := (x23.len : Int)) (b := x24) rfl rfl rfl) ?_
          refine rp 16 55 hD rfl rfl rfl (fun _ => q_min (a := (max x22 (0 : Int))) (b := (IntKind.i64.wrap ((x23.len : Int) - x24))) rfl rfl rfl) ?_
          refine rp 17 56 hD rfl rfl rfl (fun _ => q_add (a := x13) (b := (min (max x22 (0 : Int)) (IntKind.i64.wrap ((x23.len : Int) - x24)))) rfl rfl rfl) ?_
          refine rp 18 6 hD rfl rfl rfl (fun _ => q_assign (v := .int .i64 ((IntKind.i64.wrap (x13 + (min (max x22 (0 : Int)) (IntKind.i64.wrap ((x23.len : Int) - x24))))))) rfl rfl) ?_
          refine rd_nil (by kernel_rfl) ?_
          exact ⟨((IntKind.i64.wrap (x13 + (min (max x22 (0 : Int)) (IntKind.i64.wrap ((x23.len : Int) - x24)))))), _, arr (upd_step (upd_step (upd_step (upd_step (upd_step (upd_step rfl rfl) rfl) rfl) rfl) rfl) rfl), h⟩
        · refine wp_skip ?_
          exact ⟨(x13), _, arr (upd_step (upd_step (upd_step (upd_step (upd_step (upd_step rfl rfl) rfl) rfl) rfl) rfl) rfl), h⟩
    · refine wp_exit ?_
      exact end_ok rfl .nil ⟨(), rfl, h⟩

-- (*moiety/disk.Disk).Up
def F20 (d_1 : (Option Addr)) (w : World) (R : Unit → World → Prop) : Prop :=
  ex (NC d_1) fun a2 =>
  st tBool (a2.add 2) false w fun w3 =>
  R () w3
theorem F20_ok {d_1 : (Option Addr)} {w : World} {R : Unit → World → Prop} (h : F20 d_1 w R) : cl Try.prog 20 [.pointer (d_1)] tUnit w R := by
  unfold F20 at h
  refine calls_start 5 Try.func20 rfl rfl (Nat.le_of_ble_eq_true rfl) ?_
  refine wp_text [0, 1, 2, 3] rfl ?_
  refine rv 2 rfl rfl rfl (q_move (v := .pointer (d_1)) rfl rfl) ?_
  obtain ⟨a2, ha2, h⟩ := h
  refine rv 3 rfl rfl rfl (q_nilCheck (a := a2) rfl (congrArg Value.pointer ha2)) ?_
  refine rv 4 rfl rfl rfl (q_fieldAddr (a := a2) (off := 2) rfl Try.underlying80 rfl rfl ok4 (by decide) rfl) ?_
  obtain ⟨w3, hw3, hrw3, h⟩ := st_open h
  refine ro_skip (d := none) rfl (.free rfl) rfl (q_store (T := tBool) (u := false) (a := (a2.add 2)) rfl ok4 rfl rfl hrw3 hw3) ?_
  refine ro_nil ?_
  exact end_ok rfl .nil ⟨(), rfl, h⟩

-- (*moiety/moietylaw22.heard).many
def F21_j2 (i_3 : Int) (n_6 : Int) (w7 : World) (K5 : Int × Int → World → Prop) (R : Int → World → Prop) : Prop :=
  K5 (n_6, (IntKind.i64.wrap (i_3 + (1 : Int)))) w7
def F21_l1 (h_1 : (Option Addr)) (n_2 : Int) (i_3 : Int) (w4 : World) (K5 : Int × Int → World → Prop) (R : Int → World → Prop) : Prop :=
  if (decide (i_3 < (5 : Int))) = true then (
    ex (NC h_1) fun a8 =>
    ex (IxR (a8.add 0) 5 1 i_3) fun a9 =>
    ex (RdAt tBool a9 w4) fun x10 =>
    if x10 = true then (
      F21_j2 i_3 (IntKind.i64.wrap (n_2 + (1 : Int))) w4 K5 R
    ) else (
      F21_j2 i_3 n_2 w4 K5 R
    )
  ) else (
    R n_2 w4
  )
def F21 (h_1 : (Option Addr)) (w : World) (R : Int → World → Prop) : Prop :=
  lp (fun (s : Int × Int) w K => F21_l1 h_1 s.1 s.2 w K R) ((0 : Int), (0 : Int)) w
theorem F21_ok {h_1 : (Option Addr)} {w : World} {R : Int → World → Prop} (h : F21 h_1 w R) : cl Try.prog 21 [.pointer (h_1)] (tInt .i64) w R := by
  unfold F21 at h
  refine calls_start 18 Try.func21 rfl rfl (Nat.le_of_ble_eq_true rfl) ?_
  refine wp_seq ?_
  refine wp_text [0] rfl ?_
  refine rv 2 rfl rfl rfl (q_assign (v := .int .i64 ((0 : Int))) rfl rfl) ?_
  refine ro_nil ?_
  refine wp_seq ?_
  refine wp_text [0] rfl ?_
  refine rv 3 rfl rfl rfl (q_assign (v := .int .i64 ((0 : Int))) rfl rfl) ?_
  refine ro_nil ?_
  refine wp_seq ?_
  refine wp_seq ?_
  refine wp_text [0] rfl ?_
  refine rv 4 rfl rfl rfl (q_assign (v := .int .i64 ((0 : Int))) rfl rfl) ?_
  refine ro_nil ?_
  refine wp_block ?_
  refine loop_at (σ := Int × Int) (fr := fun g (s : Int × Int) => upd (upd (upd (g) 0 (.pointer (h_1))) 3 (.int .i64 (s.1))) 4 (.int .i64 (s.2))) (s0 := ((0 : Int), (0 : Int))) (upd_step (upd_step (upd_step rfl rfl) rfl) rfl) h ?_
  rintro ⟨n_2, i_3⟩ g w4 K5 h
  unfold F21_l1 at h
  refine wp_seq ?_
  refine wp_seq ?_
  refine wp_text [0, 1] rfl ?_
  refine rv 5 rfl rfl rfl (q_move (v := .int .i64 (i_3)) rfl rfl) ?_
  refine rv 6 rfl rfl rfl (q_lss (a := i_3) (b := (5 : Int)) rfl rfl rfl) ?_
  refine ro_nil ?_
  refine wp_if (b := (decide (i_3 < (5 : Int)))) rfl h (fun hb12 h => ?_) (fun hb12 h => ?_)
  · refine wp_skip ?_
    refine seq_join (σ := Int) (J := fun (s : Int) w => F21_j2 i_3 s w K5 R) (fr := fun g (s : Int) => upd (upd (upd (g) 0 (.pointer (h_1))) 4 (.int .i64 (i_3))) 3 (.int .i64 (s))) ?_ ?_
    · rintro n_6 g w7 h
      unfold F21_j2 at h
      refine wp_text [0, 1, 2] rfl ?_
      refine rv 7 rfl rfl rfl (q_move (v := .int .i64 (i_3)) rfl rfl) ?_
      refine rv 8 rfl rfl rfl (q_add (a := i_3) (b := (1 : Int)) rfl rfl rfl) ?_
      refine rv 4 rfl rfl rfl (q_assign (v := .int .i64 ((IntKind.i64.wrap (i_3 + (1 : Int))))) rfl rfl) ?_
      refine ro_nil ?_
      exact ⟨(n_6, (IntKind.i64.wrap (i_3 + (1 : Int)))), _, arr (upd_step (upd_step (upd_step rfl rfl) rfl) rfl), h⟩
    · refine wp_block ?_
      refine wp_seq ?_
      refine wp_text [0, 1, 2, 3, 4, 5] rfl ?_
      refine rv 9 rfl rfl rfl (q_move (v := .pointer (h_1)) rfl rfl) ?_
      refine rv 10 rfl rfl rfl (q_move (v := .int .i64 (i_3)) rfl rfl) ?_
      obtain ⟨a8, ha8, h⟩ := h
      refine rv 11 rfl rfl rfl (q_nilCheck (a := a8) rfl (congrArg Value.pointer ha8)) ?_
      refine rv 12 rfl rfl rfl (q_fieldAddr (a := a8) (off := 0) rfl Try.underlying64 rfl rfl ok59 (by decide) rfl) ?_
      obtain ⟨a9, ha9, h⟩ := h
      refine rv 13 rfl rfl rfl (q_indexAddrA (b := (a8.add 0)) (i := i_3) rfl Try.underlying59 ok4 rfl rfl ha9) ?_
      obtain ⟨x10, hx10, h⟩ := h
      refine rv 14 rfl rfl rfl (q_load (T := tBool) (u := x10) (a := a9) rfl ok4 rfl hx10) ?_
      refine ro_nil ?_
      refine wp_if (b := x10) rfl h (fun hb11 h => ?_) (fun hb11 h => ?_)
      · refine wp_text [0, 1, 2] rfl ?_
        refine rv 15 rfl rfl rfl (q_move (v := .int .i64 (n_2)) rfl rfl) ?_
        refine rv 16 rfl rfl rfl (q_add (a := n_2) (b := (1 : Int)) rfl rfl rfl) ?_
        refine rv 3 rfl rfl rfl (q_assign (v := .int .i64 ((IntKind.i64.wrap (n_2 + (1 : Int))))) rfl rfl) ?_
        refine ro_nil ?_
        exact ⟨((IntKind.i64.wrap (n_2 + (1 : Int)))), _, arr (upd_step (upd_step (upd_step rfl rfl) rfl) rfl), h⟩
      · refine wp_skip ?_
        exact ⟨(n_2), _, arr (upd_step (upd_step (upd_step rfl rfl) rfl) rfl), h⟩
  · refine wp_exit ?_
    refine wp_seq ?_
    refine wp_text [0, 1] rfl ?_
    refine rv 17 rfl rfl rfl (q_move (v := .int .i64 (n_2)) rfl rfl) ?_
    refine rv 2 rfl rfl rfl (q_assign (v := .int .i64 (n_2)) rfl rfl) ?_
    refine ro_nil ?_
    refine wp_ret ?_
    exact ret_ok rfl (.cons (.tmp (v := .int .i64 (n_2)) rfl) .nil) ⟨n_2, rfl, h⟩

end Go.Proofs.Ytjkmeooncmhonaa.Cf
