/- Characteristic formulae of Go functions, and that they are. Printed by gen.py (own tool). -/
import Derived.Test.YtpflfnaflacfgaaTy
namespace Go.Proofs.Ytpflfnaflacfgaa.Cf
open Go
set_option maxRecDepth 100000
set_option maxHeartbeats 1000000
set_option linter.unusedVariables false
set_option linter.unusedSimpArgs false

-- (*moiety/post.Net[string]).Purge$1
def F35 (x_1 : S35) (t_2 : Addr) (w : World) (R : Bool → World → Prop) : Prop :=
  nw 36 T35 x_1 w fun a3 w4 =>
  ex (RdAt (tInt .i64) (a3.add 2) w4) fun x5 =>
  ex (RdAt (tInt .i64) t_2 w4) fun x6 =>
  R (x5 == x6) w4
theorem F35_ok {x_1 : S35} {t_2 : Addr} {w : World} {R : Bool → World → Prop} (h : F35 x_1 t_2 w R) : cl Try.prog 35 [T35.enc (x_1), .pointer (some t_2)] tBool w R := by
  unfold F35 at h
  refine calls_start 8 Try.func35 rfl rfl (Nat.le_of_ble_eq_true rfl) ?_
  refine wp_seq ?_
  refine wp_text [0, 1] rfl ?_
  obtain ⟨a3, w4, ha3, hw4, h⟩ := nw_open h
  refine ro_val (d := (some 2)) rfl (.free rfl) rfl (q_box (u := x_1) rfl ok36 rfl ha3 hw4) ?_
  refine ro_val (d := (some 3)) rfl (.free rfl) rfl (q_assign (v := .bool (false)) rfl rfl) ?_
  refine ro_nil ?_
  refine wp_seq ?_
  refine wp_text [0, 1, 2, 3, 4] rfl ?_
  refine ro_val (d := (some 4)) rfl (.free rfl) rfl (q_fieldAddr (a := a3) (off := 2) rfl Try.underlying36 rfl rfl ok3 (by decide) rfl) ?_
  obtain ⟨x5, hx5, h⟩ := h
  refine ro_val (d := (some 5)) rfl (.free rfl) rfl (q_load (T := (tInt .i64)) (u := x5) (a := (a3.add 2)) rfl ok3 rfl hx5) ?_
  obtain ⟨x6, hx6, h⟩ := h
  refine ro_val (d := (some 6)) rfl (.free rfl) rfl (q_load (T := (tInt .i64)) (u := x6) (a := t_2) rfl ok3 rfl hx6) ?_
  refine ro_val (d := (some 7)) rfl (.free rfl) rfl (q_eql (a := x5) (b := x6) rfl rfl rfl) ?_
  refine ro_val (d := (some 3)) rfl (.free rfl) rfl (q_assign (v := .bool ((x5 == x6))) rfl rfl) ?_
  refine ro_nil ?_
  refine wp_ret ?_
  exact ret_ok rfl (.cons (.tmp (v := .bool ((x5 == x6))) rfl) .nil) ⟨(x5 == x6), rfl, h⟩

-- moiety/moietyref09.Send
def F36_j1 (a5 : Addr) (a7 : Addr) (w20 : World) (R : (S48 × Int × Int) → World → Prop) : Prop :=
  dr w20 fun w21 =>
  ex (RdAt T48 a5 w21) fun x22 =>
  ex (RdAt (tInt .i64) (a5.add 1) w21) fun x23 =>
  st T48 a7 x22 w21 fun w24 =>
  kp ((RdAt (tInt .i64) (a5.add 1) w24) x23) <|
  ex (RdAt T48 a7 w24) fun x26 =>
  R (x26, x23, (0 : Int)) w24
def F36 (n_1 : S48) (from_2 : Int) (to_3 : Int) (m_4 : (List UInt8)) (w : World) (R : (S48 × Int × Int) → World → Prop) : Prop :=
  nw 49 T48 n_1 w fun a5 w6 =>
  nw 49 T48 Z48 w6 fun a7 w8 =>
  ex (fun x => (!((decide (from_2 < (0 : Int))) || (decide (to_3 < (0 : Int))))) = true → (RdAt (tInt .i64) (a5.add 0) w8) x) fun x9 =>
  ex (fun x => (!(((decide (from_2 < (0 : Int))) || (decide (to_3 < (0 : Int)))) || (decide (from_2 ≥ x9)))) = true → (RdAt (tInt .i64) (a5.add 0) w8) x) fun x10 =>
  if ((((decide (from_2 < (0 : Int))) || (decide (to_3 < (0 : Int)))) || (decide (from_2 ≥ x9))) || (decide (to_3 ≥ x10))) = true then (
    ex (RdAt T48 a5 w8) fun x11 =>
    st T48 a7 x11 w8 fun w12 =>
    ex (RdAt T48 a7 w12) fun x13 =>
    R (x13, (0 : Int), (90 : Int)) w12
  ) else (
    ex (RdAt tSlc (a5.add 66) w8) fun x14 =>
    if ((x14.len : Int) == (1000 : Int)) = true then (
      ex (RdAt T48 a5 w8) fun x15 =>
      st T48 a7 x15 w8 fun w16 =>
      ex (RdAt T48 a7 w16) fun x17 =>
      R (x17, (0 : Int), (91 : Int)) w16
    ) else (
      ex (RdAt (tInt .i64) (a5.add 1) w8) fun x18 =>
      st (tInt .i64) (a5.add 1) (IntKind.i64.wrap (x18 + (1 : Int))) w8 fun w19 =>
      dr w19 fun w27 =>
      ex (RdAt tSlc (a5.add 66) w27) fun x28 =>
      ex (RdAt (tInt .i64) (a5.add 1) w27) fun x29 =>
      bth (
        nwS 75 T35 ([] : List S35) w27 fun a30 w31 =>
        bth (
          apd 75 T35 4 40 (⟨some a30, 0, 0⟩ : Slc) x28 w31 fun r33 w32 =>
          kp ((RdAt (tInt .i64) (a5.add 1) w32) x29) <|
          apl 75 T35 4 40 r33 [(⟨x29, from_2, to_3, m_4⟩ : S35)] w32 fun r38 w37 =>
          kp ((RdAt tSlc (a5.add 66) w37) x28) <|
          kp ((RdAt (tInt .i64) (a5.add 1) w37) x29) <|
          st tSlc (a5.add 66) r38 w37 fun w41 =>
          F36_j1 a5 a7 w41 R
        ) (
          nwS 75 T35 [(⟨x29, from_2, to_3, m_4⟩ : S35)] w31 fun a42 w43 =>
          apd 75 T35 4 40 (⟨some a30, 0, 0⟩ : Slc) x28 w43 fun r45 w44 =>
          kp ((RdAt (tInt .i64) (a5.add 1) w44) x29) <|
          apd 75 T35 4 40 r45 (⟨some a42, 1, 1⟩ : Slc) w44 fun r48 w47 =>
          kp ((RdAt tSlc (a5.add 66) w47) x28) <|
          kp ((RdAt (tInt .i64) (a5.add 1) w47) x29) <|
          st tSlc (a5.add 66) r48 w47 fun w51 =>
          F36_j1 a5 a7 w51 R
        )
      ) (
        nwS 75 T35 [(⟨x29, from_2, to_3, m_4⟩ : S35)] w27 fun a52 w53 =>
        nwS 75 T35 ([] : List S35) w53 fun a54 w55 =>
        apd 75 T35 4 40 (⟨some a54, 0, 0⟩ : Slc) x28 w55 fun r57 w56 =>
        kp ((RdAt (tInt .i64) (a5.add 1) w56) x29) <|
        apd 75 T35 4 40 r57 (⟨some a52, 1, 1⟩ : Slc) w56 fun r60 w59 =>
        kp ((RdAt tSlc (a5.add 66) w59) x28) <|
        kp ((RdAt (tInt .i64) (a5.add 1) w59) x29) <|
        st tSlc (a5.add 66) r60 w59 fun w63 =>
        F36_j1 a5 a7 w63 R
      )
    )
  )
theorem F36_ok {n_1 : S48} {from_2 : Int} {to_3 : Int} {m_4 : (List UInt8)} {w : World} {R : (S48 × Int × Int) → World → Prop} (h : F36 n_1 from_2 to_3 m_4 w R) : cl Try.prog 36 [T48.enc (n_1), .int .i64 (from_2), .int .i64 (to_3), .string ⟨(m_4).toArray⟩] (tTup3 T48 (tInt .i64) (tInt .i64)) w R := by
  unfold F36 at h
  refine calls_start 55 Try.func36 rfl rfl (Nat.le_of_ble_eq_true rfl) ?_
  refine wp_seq ?_
  refine wp_text [0, 1, 2, 3] rfl ?_
  obtain ⟨a5, w6, ha5, hw6, h⟩ := nw_open h
  refine ro_val (d := (some 4)) rfl (.free rfl) rfl (q_box (u := n_1) rfl ok49 rfl ha5 hw6) ?_
  obtain ⟨a7, w8, ha7, hw8, h⟩ := nw_open h
  refine ro_val (d := (some 8)) rfl (.free rfl) rfl (q_alloc (u := Z48) rfl ok49 inf49 ha7 hw8) ?_
  refine ro_val (d := (some 9)) rfl (.free rfl) rfl (q_assign (v := .int .i64 ((0 : Int))) rfl rfl) ?_
  refine ro_val (d := (some 10)) rfl (.free rfl) rfl (q_assign (v := .int .i64 ((0 : Int))) rfl rfl) ?_
  refine ro_nil ?_
  refine wp_seq ?_
  refine wp_seq ?_
  refine wp_text [0, 1, 2, 3, 4, 5, 6, 7, 8, 9, 10, 11, 12, 13, 14, 15, 16, 17] rfl ?_
  refine ro_val (d := (some 11)) rfl (.free rfl) rfl (q_move (v := .int .i64 (from_2)) rfl rfl) ?_
  refine ro_val (d := (some 12)) rfl (.free rfl) rfl (q_lss (a := from_2) (b := (0 : Int)) rfl rfl rfl) ?_
  refine ro_val (d := (some 13)) rfl (.free rfl) rfl (q_move (v := .bool ((decide (from_2 < (0 : Int))))) rfl rfl) ?_
  refine ro_gval (g := (!(decide (from_2 < (0 : Int))))) (d := (some 14)) rfl (.no 2 13 true (decide (from_2 < (0 : Int))) rfl rfl rfl rfl) rfl (fun hg => q_move (v := .int .i64 (to_3)) rfl rfl) ?_
  refine ro_gval (g := (!(decide (from_2 < (0 : Int))))) (d := (some 15)) rfl (.no 2 13 true (decide (from_2 < (0 : Int))) rfl rfl rfl rfl) rfl (fun hg => q_lss (a := to_3) (b := (0 : Int)) rfl (gvb_yes hg) rfl) ?_
  refine ro_val (d := (some 16)) rfl (.free rfl) rfl (q_pickGF (a := (decide (from_2 < (0 : Int)))) (c := (decide (to_3 < (0 : Int)))) rfl rfl rfl rfl) ?_
  refine ro_val (d := (some 17)) rfl (.free rfl) rfl (q_move (v := .bool (((decide (from_2 < (0 : Int))) || (decide (to_3 < (0 : Int)))))) rfl rfl) ?_
  refine ro_gval (g := (!((decide (from_2 < (0 : Int))) || (decide (to_3 < (0 : Int)))))) (d := (some 18)) rfl (.no 6 17 true ((decide (from_2 < (0 : Int))) || (decide (to_3 < (0 : Int)))) rfl rfl rfl rfl) rfl (fun hg => q_move (v := .int .i64 (from_2)) rfl rfl) ?_
  refine ro_gval (g := (!((decide (from_2 < (0 : Int))) || (decide (to_3 < (0 : Int)))))) (d := (some 19)) rfl (.no 6 17 true ((decide (from_2 < (0 : Int))) || (decide (to_3 < (0 : Int)))) rfl rfl rfl rfl) rfl (fun hg => q_fieldAddr (a := a5) (off := 0) rfl Try.underlying49 rfl rfl ok3 (by decide) rfl) ?_
  obtain ⟨x9, hx9, h⟩ := h
  refine ro_gval (g := (!((decide (from_2 < (0 : Int))) || (decide (to_3 < (0 : Int)))))) (d := (some 20)) rfl (.no 6 17 true ((decide (from_2 < (0 : Int))) || (decide (to_3 < (0 : Int)))) rfl rfl rfl rfl) rfl (fun hg => q_load (T := (tInt .i64)) (u := x9) (a := (a5.add 0)) rfl ok3 (gvb_yes hg) (hx9 hg)) ?_
  refine ro_gval (g := (!((decide (from_2 < (0 : Int))) || (decide (to_3 < (0 : Int)))))) (d := (some 21)) rfl (.no 6 17 true ((decide (from_2 < (0 : Int))) || (decide (to_3 < (0 : Int)))) rfl rfl rfl rfl) rfl (fun hg => q_geq (a := from_2) (b := x9) rfl (gvb_yes hg) (gvb_yes hg)) ?_
  refine ro_val (d := (some 22)) rfl (.free rfl) rfl (q_pickGF (a := ((decide (from_2 < (0 : Int))) || (decide (to_3 < (0 : Int))))) (c := (decide (from_2 ≥ x9))) rfl rfl rfl rfl) ?_
  refine ro_val (d := (some 23)) rfl (.free rfl) rfl (q_move (v := .bool ((((decide (from_2 < (0 : Int))) || (decide (to_3 < (0 : Int)))) || (decide (from_2 ≥ x9))))) rfl rfl) ?_
  refine ro_gval (g := (!(((decide (from_2 < (0 : Int))) || (decide (to_3 < (0 : Int)))) || (decide (from_2 ≥ x9))))) (d := (some 24)) rfl (.no 12 23 true (((decide (from_2 < (0 : Int))) || (decide (to_3 < (0 : Int)))) || (decide (from_2 ≥ x9))) rfl rfl rfl rfl) rfl (fun hg => q_move (v := .int .i64 (to_3)) rfl rfl) ?_
  refine ro_gval (g := (!(((decide (from_2 < (0 : Int))) || (decide (to_3 < (0 : Int)))) || (decide (from_2 ≥ x9))))) (d := (some 25)) rfl (.no 12 23 true (((decide (from_2 < (0 : Int))) || (decide (to_3 < (0 : Int)))) || (decide (from_2 ≥ x9))) rfl rfl rfl rfl) rfl (fun hg => q_fieldAddr (a := a5) (off := 0) rfl Try.underlying49 rfl rfl ok3 (by decide) rfl) ?_
  obtain ⟨x10, hx10, h⟩ := h
  refine ro_gval (g := (!(((decide (from_2 < (0 : Int))) || (decide (to_3 < (0 : Int)))) || (decide (from_2 ≥ x9))))) (d := (some 26)) rfl (.no 12 23 true (((decide (from_2 < (0 : Int))) || (decide (to_3 < (0 : Int)))) || (decide (from_2 ≥ x9))) rfl rfl rfl rfl) rfl (fun hg => q_load (T := (tInt .i64)) (u := x10) (a := (a5.add 0)) rfl ok3 (gvb_yes hg) (hx10 hg)) ?_
  refine ro_gval (g := (!(((decide (from_2 < (0 : Int))) || (decide (to_3 < (0 : Int)))) || (decide (from_2 ≥ x9))))) (d := (some 27)) rfl (.no 12 23 true (((decide (from_2 < (0 : Int))) || (decide (to_3 < (0 : Int)))) || (decide (from_2 ≥ x9))) rfl rfl rfl rfl) rfl (fun hg => q_geq (a := to_3) (b := x10) rfl (gvb_yes hg) (gvb_yes hg)) ?_
  refine ro_val (d := (some 28)) rfl (.free rfl) rfl (q_pickGF (a := (((decide (from_2 < (0 : Int))) || (decide (to_3 < (0 : Int)))) || (decide (from_2 ≥ x9)))) (c := (decide (to_3 ≥ x10))) rfl rfl rfl rfl) ?_
  refine ro_nil ?_
  refine wp_if (b := ((((decide (from_2 < (0 : Int))) || (decide (to_3 < (0 : Int)))) || (decide (from_2 ≥ x9))) || (decide (to_3 ≥ x10)))) rfl h (fun hb65 h => ?_) (fun hb65 h => ?_)
  · refine wp_seq ?_
    refine wp_text [0, 1, 2, 3] rfl ?_
    obtain ⟨x11, hx11, h⟩ := h
    refine ro_val (d := (some 29)) rfl (.free rfl) rfl (q_load (T := T48) (u := x11) (a := a5) rfl ok49 rfl hx11) ?_
    obtain ⟨w12, hw12, hrw12, h⟩ := st_open h
    refine ro_skip (d := none) rfl (.free rfl) rfl (q_store (T := T48) (u := x11) (a := a7) rfl ok49 rfl rfl hrw12 hw12) ?_
    refine ro_val (d := (some 9)) rfl (.free rfl) rfl (q_assign (v := .int .i64 ((0 : Int))) rfl rfl) ?_
    refine ro_val (d := (some 10)) rfl (.free rfl) rfl (q_assign (v := .int .i64 ((90 : Int))) rfl rfl) ?_
    refine ro_nil ?_
    refine wp_ret ?_
    obtain ⟨x13, hx13, h⟩ := h
    exact ret_ok rfl (.cons (.cell (T := T48) (u := x13) (a := a7) ok49 rfl hx13) (.cons (.tmp (v := .int .i64 ((0 : Int))) rfl) (.cons (.tmp (v := .int .i64 ((90 : Int))) rfl) .nil))) ⟨(x13, (0 : Int), (90 : Int)), rfl, h⟩
  · refine wp_skip ?_
    refine wp_seq ?_
    refine wp_seq ?_
    refine wp_text [0, 1, 2, 3] rfl ?_
    refine ro_val (d := (some 30)) rfl (.free rfl) rfl (q_fieldAddr (a := a5) (off := 66) rfl Try.underlying49 rfl rfl ok47 (by decide) rfl) ?_
    obtain ⟨x14, hx14, h⟩ := h
    refine ro_val (d := (some 31)) rfl (.free rfl) rfl (q_load (T := tSlc) (u := x14) (a := (a5.add 66)) rfl ok47 rfl hx14) ?_
    refine ro_val (d := (some 32)) rfl (.free rfl) rfl (q_len (s := x14) rfl Try.underlying47 rfl) ?_
    refine ro_val (d := (some 33)) rfl (.free rfl) rfl (q_eql (a := (x14.len : Int)) (b := (1000 : Int)) rfl rfl rfl) ?_
    refine ro_nil ?_
    refine wp_if (b := ((x14.len : Int) == (1000 : Int))) rfl h (fun hb64 h => ?_) (fun hb64 h => ?_)
    · refine wp_seq ?_
      refine wp_text [0, 1, 2, 3] rfl ?_
      obtain ⟨x15, hx15, h⟩ := h
      refine ro_val (d := (some 34)) rfl (.free rfl) rfl (q_load (T := T48) (u := x15) (a := a5) rfl ok49 rfl hx15) ?_
      obtain ⟨w16, hw16, hrw16, h⟩ := st_open h
      refine ro_skip (d := none) rfl (.free rfl) rfl (q_store (T := T48) (u := x15) (a := a7) rfl ok49 rfl rfl hrw16 hw16) ?_
      refine ro_val (d := (some 9)) rfl (.free rfl) rfl (q_assign (v := .int .i64 ((0 : Int))) rfl rfl) ?_
      refine ro_val (d := (some 10)) rfl (.free rfl) rfl (q_assign (v := .int .i64 ((91 : Int))) rfl rfl) ?_
      refine ro_nil ?_
      refine wp_ret ?_
      obtain ⟨x17, hx17, h⟩ := h
      exact ret_ok rfl (.cons (.cell (T := T48) (u := x17) (a := a7) ok49 rfl hx17) (.cons (.tmp (v := .int .i64 ((0 : Int))) rfl) (.cons (.tmp (v := .int .i64 ((91 : Int))) rfl) .nil))) ⟨(x17, (0 : Int), (91 : Int)), rfl, h⟩
    · refine wp_skip ?_
      refine wp_seq ?_
      refine wp_text [0, 1, 2, 3, 4] rfl ?_
      refine ro_val (d := (some 35)) rfl (.free rfl) rfl (q_fieldAddr (a := a5) (off := 1) rfl Try.underlying49 rfl rfl ok3 (by decide) rfl) ?_
      obtain ⟨x18, hx18, h⟩ := h
      refine ro_val (d := (some 36)) rfl (.free rfl) rfl (q_load (T := (tInt .i64)) (u := x18) (a := (a5.add 1)) rfl ok3 rfl hx18) ?_
      refine ro_val (d := (some 37)) rfl (.free rfl) rfl (q_add (a := x18) (b := (1 : Int)) rfl rfl rfl) ?_
      refine ro_val (d := (some 38)) rfl (.free rfl) rfl (q_fieldAddr (a := a5) (off := 1) rfl Try.underlying49 rfl rfl ok3 (by decide) rfl) ?_
      obtain ⟨w19, hw19, hrw19, h⟩ := st_open h
      refine ro_skip (d := none) rfl (.free rfl) rfl (q_store (T := (tInt .i64)) (u := (IntKind.i64.wrap (x18 + (1 : Int)))) (a := (a5.add 1)) rfl ok3 rfl rfl hrw19 hw19) ?_
      refine ro_nil ?_
      refine seq_join (σ := Unit) (J := fun (s : Unit) w => F36_j1 a5 a7 w R) (fr := fun g (s : Unit) => upd (upd (g) 4 (.pointer (some a5))) 8 (.pointer (some a7))) ?_ ?_
      · rintro ⟨⟩ g w20 h
        unfold F36_j1 at h
        refine wp_seq ?_
        obtain ⟨w21, hw21, h⟩ := dr_open h
        refine wp_drawn 6 mixed rfl (by kernel_rfl) (by intro c a d v w h; cases d <;> exact h) hw21 (fun hD => ?_)
        refine rd_pure (i := 1) (d := (some 53)) hD (by kernel_rfl) (by kernel_rfl) rfl (.free rfl) rfl (fun _ => q_fieldAddr (a := a5) (off := 1) rfl Try.underlying49 rfl rfl ok3 (by decide) rfl) ?_
        obtain ⟨x22, hx22, h⟩ := h
        refine rd_read (i := 0) (d := (some 52)) (fun W => (RdAt T48 a5 W) x22) hD (by kernel_rfl) (by kernel_rfl) rfl (.free rfl) rfl (fun W hr => q_load (T := T48) (u := x22) (a := a5) rfl ok49 rfl hr) hx22 ?_
        obtain ⟨x23, hx23, h⟩ := h
        refine rd_read (i := 2) (d := (some 54)) (fun W => (RdAt (tInt .i64) (a5.add 1) W) x23) hD (by kernel_rfl) (by kernel_rfl) rfl (.free rfl) rfl (fun W hr => q_load (T := (tInt .i64)) (u := x23) (a := (a5.add 1)) rfl ok3 rfl hr) hx23 ?_
        refine rd_one (i := 3) (by kernel_rfl) ?_
        obtain ⟨w24, hw24, hrw24, h⟩ := st_open h
        obtain ⟨hk25, h⟩ := h
        refine po_skip (d := none) rfl (.free rfl) rfl (q_store (T := T48) (u := x22) (a := a7) rfl ok49 rfl rfl hrw24 hw24) ⟨(hk_keep (fun _ => hk25) (hk_wait (by kernel_rfl) hk_nil)), ?_⟩
        refine rd_pure (i := 4) (d := (some 9)) hD (by kernel_rfl) (by kernel_rfl) rfl (.free rfl) rfl (fun _ => q_assign (v := .int .i64 (x23)) rfl rfl) ?_
        refine rd_pure (i := 5) (d := (some 10)) hD (by kernel_rfl) (by kernel_rfl) rfl (.free rfl) rfl (fun _ => q_assign (v := .int .i64 ((0 : Int))) rfl rfl) ?_
        refine rd_nil (by kernel_rfl) ?_
        refine wp_ret ?_
        obtain ⟨x26, hx26, h⟩ := h
        exact ret_ok rfl (.cons (.cell (T := T48) (u := x26) (a := a7) ok49 rfl hx26) (.cons (.tmp (v := .int .i64 (x23)) rfl) (.cons (.tmp (v := .int .i64 ((0 : Int))) rfl) .nil))) ⟨(x26, x23, (0 : Int)), rfl, h⟩
      · obtain ⟨w27, hw27, h⟩ := dr_open h
        refine wp_drawn 14 mixed rfl (by kernel_rfl) (by intro c a d v w h; cases d <;> exact h) hw27 (fun hD => ?_)
        refine rd_pure (i := 1) (d := (some 40)) hD (by kernel_rfl) (by kernel_rfl) rfl (.free rfl) rfl (fun _ => q_fieldAddr (a := a5) (off := 66) rfl Try.underlying49 rfl rfl ok47 (by decide) rfl) ?_
        refine rd_pure (i := 4) (d := (some 43)) hD (by kernel_rfl) (by kernel_rfl) rfl (.free rfl) rfl (fun _ => q_fieldAddr (a := a5) (off := 1) rfl Try.underlying49 rfl rfl ok3 (by decide) rfl) ?_
        refine rd_pure (i := 6) (d := (some 45)) hD (by kernel_rfl) (by kernel_rfl) rfl (.free rfl) rfl (fun _ => q_move (v := .int .i64 (from_2)) rfl rfl) ?_
        refine rd_pure (i := 7) (d := (some 46)) hD (by kernel_rfl) (by kernel_rfl) rfl (.free rfl) rfl (fun _ => q_move (v := .int .i64 (to_3)) rfl rfl) ?_
        refine rd_pure (i := 8) (d := (some 47)) hD (by kernel_rfl) (by kernel_rfl) rfl (.free rfl) rfl (fun _ => q_move (v := .string ⟨(m_4).toArray⟩) rfl rfl) ?_
        obtain ⟨x28, hx28, h⟩ := h
        refine rd_read (i := 2) (d := (some 41)) (fun W => (RdAt tSlc (a5.add 66) W) x28) hD (by kernel_rfl) (by kernel_rfl) rfl (.free rfl) rfl (fun W hr => q_load (T := tSlc) (u := x28) (a := (a5.add 66)) rfl ok47 rfl hr) hx28 ?_
        obtain ⟨x29, hx29, h⟩ := h
        refine rd_read (i := 5) (d := (some 44)) (fun W => (RdAt (tInt .i64) (a5.add 1) W) x29) hD (by kernel_rfl) (by kernel_rfl) rfl (.free rfl) rfl (fun W hr => q_load (T := (tInt .i64)) (u := x29) (a := (a5.add 1)) rfl ok3 rfl hr) hx29 ?_
        refine rd_pure (i := 9) (d := (some 48)) hD (by kernel_rfl) (by kernel_rfl) rfl (.free rfl) rfl (fun _ => q_build75_0_1_2_3 (v0 := x29) (v1 := from_2) (v2 := to_3) (v3 := m_4) rfl rfl rfl rfl rfl) ?_
        obtain ⟨h, h'⟩ := h
        refine rd_two (i := 0) (j := 10) (by kernel_rfl) ?_ ?_
        · clear h'
          obtain ⟨a30, w31, ha30, hw31, h⟩ := nwS_open h
          refine po_val (d := (some 39)) rfl (.free rfl) rfl (q_row0 (T := T35) rfl Try.underlying47 ok75 inf75 ha30 hw31) ⟨(hk_keep (fun h => keep_RdAt hw31 h) (hk_keep (fun h => keep_RdAt hw31 h) hk_nil)), ?_⟩
          obtain ⟨h, h'⟩ := h
          refine rd_two (i := 3) (j := 10) (by kernel_rfl) ?_ ?_
          · clear h'
            refine po_wp rfl (.free rfl) (wp_append (d := (some 42)) (T := T35) rfl rfl Try.underlying47 ⟨_, Try.underlying47⟩ ok75 inf75 rfl rfl (Nat.lt_of_lt_of_le Nat.zero_lt_one (Nat.le_of_ble_eq_true rfl)) rfl rfl h ?_)
            intro r33 w32 h
            obtain ⟨hk34, h⟩ := h
            refine ⟨(hk_keep (fun _ => hk34) (hk_wait (by kernel_rfl) hk_nil)), ?_⟩
            refine rd_one (i := 10) (by kernel_rfl) ?_
            obtain ⟨a35, w36, ha35, hw36, h⟩ := apl_open h
            refine po_val (d := (some 49)) rfl (.free rfl) rfl (q_rowOf (T := T35) (xs := [(⟨x29, from_2, to_3, m_4⟩ : S35)]) rfl Try.underlying47 ok75 inf75 rfl (by decide) (by decide) rfl ha35 hw36) ⟨(hk_keep (fun h => keep_RdAt hw36 h) (hk_keep (fun h => keep_RdAt hw36 h) hk_nil)), ?_⟩
            refine rd_one (i := 11) (by kernel_rfl) ?_
            refine po_wp rfl (.free rfl) (wp_append (d := (some 50)) (T := T35) rfl rfl Try.underlying47 ⟨_, Try.underlying47⟩ ok75 inf75 rfl rfl (Nat.lt_of_lt_of_le Nat.zero_lt_one (Nat.le_of_ble_eq_true rfl)) rfl rfl h ?_)
            intro r38 w37 h
            obtain ⟨hk39, h⟩ := h
            obtain ⟨hk40, h⟩ := h
            refine ⟨(hk_keep (fun _ => hk40) (hk_keep (fun _ => hk39) hk_nil)), ?_⟩
            refine rd_pure (i := 12) (d := (some 51)) hD (by kernel_rfl) (by kernel_rfl) rfl (.free rfl) rfl (fun _ => q_fieldAddr (a := a5) (off := 66) rfl Try.underlying49 rfl rfl ok47 (by decide) rfl) ?_
            refine rd_one (i := 13) (by kernel_rfl) ?_
            obtain ⟨w41, hw41, hrw41, h⟩ := st_open h
            refine po_skip (d := none) rfl (.free rfl) rfl (q_store (T := tSlc) (u := r38) (a := (a5.add 66)) rfl ok47 rfl rfl hrw41 hw41) ⟨(hk_wait (by kernel_rfl) (hk_wait (by kernel_rfl) hk_nil)), ?_⟩
            refine rd_nil (by kernel_rfl) ?_
            exact ⟨(), _, arr (upd_step (upd_step rfl rfl) rfl), h⟩
          · replace h := h'; clear h'
            obtain ⟨a42, w43, ha42, hw43, h⟩ := nwS_open h
            refine po_val (d := (some 49)) rfl (.free rfl) rfl (q_rowOf (T := T35) (xs := [(⟨x29, from_2, to_3, m_4⟩ : S35)]) rfl Try.underlying47 ok75 inf75 rfl (by decide) (by decide) rfl ha42 hw43) ⟨(hk_keep (fun h => keep_RdAt hw43 h) (hk_keep (fun h => keep_RdAt hw43 h) hk_nil)), ?_⟩
            refine rd_one (i := 3) (by kernel_rfl) ?_
            refine po_wp rfl (.free rfl) (wp_append (d := (some 42)) (T := T35) rfl rfl Try.underlying47 ⟨_, Try.underlying47⟩ ok75 inf75 rfl rfl (Nat.lt_of_lt_of_le Nat.zero_lt_one (Nat.le_of_ble_eq_true rfl)) rfl rfl h ?_)
            intro r45 w44 h
            obtain ⟨hk46, h⟩ := h
            refine ⟨(hk_keep (fun _ => hk46) (hk_wait (by kernel_rfl) hk_nil)), ?_⟩
            refine rd_one (i := 11) (by kernel_rfl) ?_
            refine po_wp rfl (.free rfl) (wp_append (d := (some 50)) (T := T35) rfl rfl Try.underlying47 ⟨_, Try.underlying47⟩ ok75 inf75 rfl rfl (Nat.lt_of_lt_of_le Nat.zero_lt_one (Nat.le_of_ble_eq_true rfl)) rfl rfl h ?_)
            intro r48 w47 h
            obtain ⟨hk49, h⟩ := h
            obtain ⟨hk50, h⟩ := h
            refine ⟨(hk_keep (fun _ => hk50) (hk_keep (fun _ => hk49) hk_nil)), ?_⟩
            refine rd_pure (i := 12) (d := (some 51)) hD (by kernel_rfl) (by kernel_rfl) rfl (.free rfl) rfl (fun _ => q_fieldAddr (a := a5) (off := 66) rfl Try.underlying49 rfl rfl ok47 (by decide) rfl) ?_
            refine rd_one (i := 13) (by kernel_rfl) ?_
            obtain ⟨w51, hw51, hrw51, h⟩ := st_open h
            refine po_skip (d := none) rfl (.free rfl) rfl (q_store (T := tSlc) (u := r48) (a := (a5.add 66)) rfl ok47 rfl rfl hrw51 hw51) ⟨(hk_wait (by kernel_rfl) (hk_wait (by kernel_rfl) hk_nil)), ?_⟩
            refine rd_nil (by kernel_rfl) ?_
            exact ⟨(), _, arr (upd_step (upd_step rfl rfl) rfl), h⟩
        · replace h := h'; clear h'
          obtain ⟨a52, w53, ha52, hw53, h⟩ := nwS_open h
          refine po_val (d := (some 49)) rfl (.free rfl) rfl (q_rowOf (T := T35) (xs := [(⟨x29, from_2, to_3, m_4⟩ : S35)]) rfl Try.underlying47 ok75 inf75 rfl (by decide) (by decide) rfl ha52 hw53) ⟨(hk_keep (fun h => keep_RdAt hw53 h) (hk_keep (fun h => keep_RdAt hw53 h) hk_nil)), ?_⟩
          refine rd_one (i := 0) (by kernel_rfl) ?_
          obtain ⟨a54, w55, ha54, hw55, h⟩ := nwS_open h
          refine po_val (d := (some 39)) rfl (.free rfl) rfl (q_row0 (T := T35) rfl Try.underlying47 ok75 inf75 ha54 hw55) ⟨(hk_keep (fun h => keep_RdAt hw55 h) (hk_keep (fun h => keep_RdAt hw55 h) hk_nil)), ?_⟩
          refine rd_one (i := 3) (by kernel_rfl) ?_
          refine po_wp rfl (.free rfl) (wp_append (d := (some 42)) (T := T35) rfl rfl Try.underlying47 ⟨_, Try.underlying47⟩ ok75 inf75 rfl rfl (Nat.lt_of_lt_of_le Nat.zero_lt_one (Nat.le_of_ble_eq_true rfl)) rfl rfl h ?_)
          intro r57 w56 h
          obtain ⟨hk58, h⟩ := h
          refine ⟨(hk_keep (fun _ => hk58) (hk_wait (by kernel_rfl) hk_nil)), ?_⟩
          refine rd_one (i := 11) (by kernel_rfl) ?_
          refine po_wp rfl (.free rfl) (wp_append (d := (some 50)) (T := T35) rfl rfl Try.underlying47 ⟨_, Try.underlying47⟩ ok75 inf75 rfl rfl (Nat.lt_of_lt_of_le Nat.zero_lt_one (Nat.le_of_ble_eq_true rfl)) rfl rfl h ?_)
          intro r60 w59 h
          obtain ⟨hk61, h⟩ := h
          obtain ⟨hk62, h⟩ := h
          refine ⟨(hk_keep (fun _ => hk62) (hk_keep (fun _ => hk61) hk_nil)), ?_⟩
          refine rd_pure (i := 12) (d := (some 51)) hD (by kernel_rfl) (by kernel_rfl) rfl (.free rfl) rfl (fun _ => q_fieldAddr (a := a5) (off := 66) rfl Try.underlying49 rfl rfl ok47 (by decide) rfl) ?_
          refine rd_one (i := 13) (by kernel_rfl) ?_
          obtain ⟨w63, hw63, hrw63, h⟩ := st_open h
          refine po_skip (d := none) rfl (.free rfl) rfl (q_store (T := tSlc) (u := r60) (a := (a5.add 66)) rfl ok47 rfl rfl hrw63 hw63) ⟨(hk_wait (by kernel_rfl) (hk_wait (by kernel_rfl) hk_nil)), ?_⟩
          refine rd_nil (by kernel_rfl) ?_
          exact ⟨(), _, arr (upd_step (upd_step rfl rfl) rfl), h⟩

-- moiety/moietyref09.Take
def F37 (n_1 : S48) (i_2 : Int) (w : World) (R : (S48 × S35 × Int) → World → Prop) : Prop :=
  nw 49 T48 n_1 w fun a3 w4 =>
  nw 49 T48 Z48 w4 fun a5 w6 =>
  nw 75 T35 Z35 w6 fun a7 w8 =>
  ex (fun x => (!(decide (i_2 < (0 : Int)))) = true → (RdAt tSlc (a3.add 66) w8) x) fun x9 =>
  if ((decide (i_2 < (0 : Int))) || (decide (i_2 ≥ (x9.len : Int)))) = true then (
    ex (RdAt T48 a3 w8) fun x10 =>
    st T48 a5 x10 w8 fun w11 =>
    st T35 a7 (⟨(0 : Int), (0 : Int), (0 : Int), ([] : List UInt8)⟩ : S35) w11 fun w12 =>
    ex (RdAt T48 a5 w12) fun x13 =>
    ex (RdAt T35 a7 w12) fun x14 =>
    R (x13, x14, (92 : Int)) w12
  ) else (
    ex (RdAt tSlc (a3.add 66) w8) fun x15 =>
    ex (IxA x15 4 i_2) fun a16 =>
    ex (RdAt T35 a16 w8) fun x17 =>
    nw 75 T35 Z35 w8 fun a18 w19 =>
    st T35 a18 x17 w19 fun w20 =>
    ex (RdAt (tInt .i64) (a18.add 1) w20) fun x21 =>
    ex (IxR (a3.add 2) 64 1 x21) fun a22 =>
    ex (RdAt tBool a22 w20) fun x23 =>
    ex (fun x => (!x23) = true → (RdAt (tInt .i64) (a18.add 2) w20) x) fun x24 =>
    ex (fun x => (!x23) = true → (IxR (a3.add 2) 64 1 x24) x) fun a25 =>
    ex (fun x => (!x23) = true → (RdAt tBool a25 w20) x) fun x26 =>
    if (x23 || x26) = true then (
      ex (RdAt T48 a3 w20) fun x27 =>
      st T48 a5 x27 w20 fun w28 =>
      st T35 a7 (⟨(0 : Int), (0 : Int), (0 : Int), ([] : List UInt8)⟩ : S35) w28 fun w29 =>
      ex (RdAt T48 a5 w29) fun x30 =>
      ex (RdAt T35 a7 w29) fun x31 =>
      R (x30, x31, (93 : Int)) w29
    ) else (
      ex (RdAt tSlc (a3.add 66) w20) fun x32 =>
      cl Try.prog 50 [tSlc.enc (x32), .int .i64 (i_2)] tSlc w20 fun r34 w33 =>
      st tSlc (a3.add 66) r34 w33 fun w35 =>
      dr w35 fun w36 =>
      ex (RdAt T48 a3 w36) fun x37 =>
      ex (RdAt T35 a18 w36) fun x38 =>
      st T48 a5 x37 w36 fun w39 =>
      kp ((RdAt T35 a18 w39) x38) <|
      st T35 a7 x38 w39 fun w41 =>
      ex (RdAt T48 a5 w41) fun x42 =>
      ex (RdAt T35 a7 w41) fun x43 =>
      R (x42, x43, (0 : Int)) w41
    )
  )
theorem F37_ok {n_1 : S48} {i_2 : Int} {w : World} {R : (S48 × S35 × Int) → World → Prop} (h : F37 n_1 i_2 w R) : cl Try.prog 37 [T48.enc (n_1), .int .i64 (i_2)] (tTup3 T48 T35 (tInt .i64)) w R := by
  unfold F37 at h
  refine calls_start 45 Try.func37 rfl rfl (Nat.le_of_ble_eq_true rfl) ?_
  refine wp_seq ?_
  refine wp_text [0, 1, 2, 3] rfl ?_
  obtain ⟨a3, w4, ha3, hw4, h⟩ := nw_open h
  refine ro_val (d := (some 2)) rfl (.free rfl) rfl (q_box (u := n_1) rfl ok49 rfl ha3 hw4) ?_
  obtain ⟨a5, w6, ha5, hw6, h⟩ := nw_open h
  refine ro_val (d := (some 4)) rfl (.free rfl) rfl (q_alloc (u := Z48) rfl ok49 inf49 ha5 hw6) ?_
  obtain ⟨a7, w8, ha7, hw8, h⟩ := nw_open h
  refine ro_val (d := (some 5)) rfl (.free rfl) rfl (q_alloc (u := Z35) rfl ok75 inf75 ha7 hw8) ?_
  refine ro_val (d := (some 6)) rfl (.free rfl) rfl (q_assign (v := .int .i64 ((0 : Int))) rfl rfl) ?_
  refine ro_nil ?_
  refine wp_seq ?_
  refine wp_seq ?_
  refine wp_text [0, 1, 2, 3, 4, 5, 6, 7, 8] rfl ?_
  refine ro_val (d := (some 8)) rfl (.free rfl) rfl (q_move (v := .int .i64 (i_2)) rfl rfl) ?_
  refine ro_val (d := (some 9)) rfl (.free rfl) rfl (q_lss (a := i_2) (b := (0 : Int)) rfl rfl rfl) ?_
  refine ro_val (d := (some 10)) rfl (.free rfl) rfl (q_move (v := .bool ((decide (i_2 < (0 : Int))))) rfl rfl) ?_
  refine ro_gval (g := (!(decide (i_2 < (0 : Int))))) (d := (some 11)) rfl (.no 2 10 true (decide (i_2 < (0 : Int))) rfl rfl rfl rfl) rfl (fun hg => q_move (v := .int .i64 (i_2)) rfl rfl) ?_
  refine ro_gval (g := (!(decide (i_2 < (0 : Int))))) (d := (some 12)) rfl (.no 2 10 true (decide (i_2 < (0 : Int))) rfl rfl rfl rfl) rfl (fun hg => q_fieldAddr (a := a3) (off := 66) rfl Try.underlying49 rfl rfl ok47 (by decide) rfl) ?_
  obtain ⟨x9, hx9, h⟩ := h
  refine ro_gval (g := (!(decide (i_2 < (0 : Int))))) (d := (some 13)) rfl (.no 2 10 true (decide (i_2 < (0 : Int))) rfl rfl rfl rfl) rfl (fun hg => q_load (T := tSlc) (u := x9) (a := (a3.add 66)) rfl ok47 (gvb_yes hg) (hx9 hg)) ?_
  refine ro_gval (g := (!(decide (i_2 < (0 : Int))))) (d := (some 14)) rfl (.no 2 10 true (decide (i_2 < (0 : Int))) rfl rfl rfl rfl) rfl (fun hg => q_len (s := x9) rfl Try.underlying47 (gvb_yes hg)) ?_
  refine ro_gval (g := (!(decide (i_2 < (0 : Int))))) (d := (some 15)) rfl (.no 2 10 true (decide (i_2 < (0 : Int))) rfl rfl rfl rfl) rfl (fun hg => q_geq (a := i_2) (b := (x9.len : Int)) rfl (gvb_yes hg) (gvb_yes hg)) ?_
  refine ro_val (d := (some 16)) rfl (.free rfl) rfl (q_pickGF (a := (decide (i_2 < (0 : Int)))) (c := (decide (i_2 ≥ (x9.len : Int)))) rfl rfl rfl rfl) ?_
  refine ro_nil ?_
  refine wp_if (b := ((decide (i_2 < (0 : Int))) || (decide (i_2 ≥ (x9.len : Int))))) rfl h (fun hb45 h => ?_) (fun hb45 h => ?_)
  · refine wp_seq ?_
    refine wp_text [0, 1, 2, 3, 4] rfl ?_
    obtain ⟨x10, hx10, h⟩ := h
    refine ro_val (d := (some 17)) rfl (.free rfl) rfl (q_load (T := T48) (u := x10) (a := a3) rfl ok49 rfl hx10) ?_
    refine ro_val (d := (some 18)) rfl (.free rfl) rfl (q_build75_  rfl ) ?_
    obtain ⟨w11, hw11, hrw11, h⟩ := st_open h
    refine ro_skip (d := none) rfl (.free rfl) rfl (q_store (T := T48) (u := x10) (a := a5) rfl ok49 rfl rfl hrw11 hw11) ?_
    obtain ⟨w12, hw12, hrw12, h⟩ := st_open h
    refine ro_skip (d := none) rfl (.free rfl) rfl (q_store (T := T35) (u := (⟨(0 : Int), (0 : Int), (0 : Int), ([] : List UInt8)⟩ : S35)) (a := a7) rfl ok75 rfl rfl hrw12 hw12) ?_
    refine ro_val (d := (some 6)) rfl (.free rfl) rfl (q_assign (v := .int .i64 ((92 : Int))) rfl rfl) ?_
    refine ro_nil ?_
    refine wp_ret ?_
    obtain ⟨x13, hx13, h⟩ := h
    obtain ⟨x14, hx14, h⟩ := h
    exact ret_ok rfl (.cons (.cell (T := T48) (u := x13) (a := a5) ok49 rfl hx13) (.cons (.cell (T := T35) (u := x14) (a := a7) ok75 rfl hx14) (.cons (.tmp (v := .int .i64 ((92 : Int))) rfl) .nil))) ⟨(x13, x14, (92 : Int)), rfl, h⟩
  · refine wp_skip ?_
    refine wp_seq ?_
    refine wp_text [0, 1, 2, 3, 4, 5, 6] rfl ?_
    refine ro_val (d := (some 19)) rfl (.free rfl) rfl (q_fieldAddr (a := a3) (off := 66) rfl Try.underlying49 rfl rfl ok47 (by decide) rfl) ?_
    obtain ⟨x15, hx15, h⟩ := h
    refine ro_val (d := (some 20)) rfl (.free rfl) rfl (q_load (T := tSlc) (u := x15) (a := (a3.add 66)) rfl ok47 rfl hx15) ?_
    refine ro_val (d := (some 21)) rfl (.free rfl) rfl (q_move (v := .int .i64 (i_2)) rfl rfl) ?_
    obtain ⟨a16, ha16, h⟩ := h
    refine ro_val (d := (some 22)) rfl (.free rfl) rfl (q_indexAddr (s := x15) (i := i_2) rfl Try.underlying47 ok75 rfl rfl ha16) ?_
    obtain ⟨x17, hx17, h⟩ := h
    refine ro_val (d := (some 23)) rfl (.free rfl) rfl (q_load (T := T35) (u := x17) (a := a16) rfl ok75 rfl hx17) ?_
    obtain ⟨a18, w19, ha18, hw19, h⟩ := nw_open h
    refine ro_val (d := (some 7)) rfl (.free rfl) rfl (q_alloc (u := Z35) rfl ok75 inf75 ha18 hw19) ?_
    obtain ⟨w20, hw20, hrw20, h⟩ := st_open h
    refine ro_skip (d := none) rfl (.free rfl) rfl (q_store (T := T35) (u := x17) (a := a18) rfl ok75 rfl rfl hrw20 hw20) ?_
    refine ro_nil ?_
    refine wp_seq ?_
    refine wp_seq ?_
    refine wp_text [0, 1, 2, 3, 4, 5, 6, 7, 8, 9, 10, 11] rfl ?_
    refine ro_val (d := (some 24)) rfl (.free rfl) rfl (q_fieldAddr (a := a18) (off := 1) rfl Try.underlying75 rfl rfl ok3 (by decide) rfl) ?_
    obtain ⟨x21, hx21, h⟩ := h
    refine ro_val (d := (some 25)) rfl (.free rfl) rfl (q_load (T := (tInt .i64)) (u := x21) (a := (a18.add 1)) rfl ok3 rfl hx21) ?_
    refine ro_val (d := (some 26)) rfl (.free rfl) rfl (q_fieldAddr (a := a3) (off := 2) rfl Try.underlying49 rfl rfl ok46 (by decide) rfl) ?_
    obtain ⟨a22, ha22, h⟩ := h
    refine ro_val (d := (some 27)) rfl (.free rfl) rfl (q_indexAddrA (b := (a3.add 2)) (i := x21) rfl Try.underlying46 ok4 rfl rfl ha22) ?_
    obtain ⟨x23, hx23, h⟩ := h
    refine ro_val (d := (some 28)) rfl (.free rfl) rfl (q_load (T := tBool) (u := x23) (a := a22) rfl ok4 rfl hx23) ?_
    refine ro_val (d := (some 29)) rfl (.free rfl) rfl (q_move (v := .bool (x23)) rfl rfl) ?_
    refine ro_gval (g := (!x23)) (d := (some 30)) rfl (.no 5 29 true x23 rfl rfl rfl rfl) rfl (fun hg => q_fieldAddr (a := a18) (off := 2) rfl Try.underlying75 rfl rfl ok3 (by decide) rfl) ?_
    obtain ⟨x24, hx24, h⟩ := h
    refine ro_gval (g := (!x23)) (d := (some 31)) rfl (.no 5 29 true x23 rfl rfl rfl rfl) rfl (fun hg => q_load (T := (tInt .i64)) (u := x24) (a := (a18.add 2)) rfl ok3 (gvb_yes hg) (hx24 hg)) ?_
    refine ro_gval (g := (!x23)) (d := (some 32)) rfl (.no 5 29 true x23 rfl rfl rfl rfl) rfl (fun hg => q_fieldAddr (a := a3) (off := 2) rfl Try.underlying49 rfl rfl ok46 (by decide) rfl) ?_
    obtain ⟨a25, ha25, h⟩ := h
    refine ro_gval (g := (!x23)) (d := (some 33)) rfl (.no 5 29 true x23 rfl rfl rfl rfl) rfl (fun hg => q_indexAddrA (b := (a3.add 2)) (i := x24) rfl Try.underlying46 ok4 (gvb_yes hg) (gvb_yes hg) (ha25 hg)) ?_
    obtain ⟨x26, hx26, h⟩ := h
    refine ro_gval (g := (!x23)) (d := (some 34)) rfl (.no 5 29 true x23 rfl rfl rfl rfl) rfl (fun hg => q_load (T := tBool) (u := x26) (a := a25) rfl ok4 (gvb_yes hg) (hx26 hg)) ?_
    refine ro_val (d := (some 35)) rfl (.free rfl) rfl (q_pickGF (a := x23) (c := x26) rfl rfl rfl rfl) ?_
    refine ro_nil ?_
    refine wp_if (b := (x23 || x26)) rfl h (fun hb44 h => ?_) (fun hb44 h => ?_)
    · refine wp_seq ?_
      refine wp_text [0, 1, 2, 3, 4] rfl ?_
      obtain ⟨x27, hx27, h⟩ := h
      refine ro_val (d := (some 36)) rfl (.free rfl) rfl (q_load (T := T48) (u := x27) (a := a3) rfl ok49 rfl hx27) ?_
      refine ro_val (d := (some 37)) rfl (.free rfl) rfl (q_build75_  rfl ) ?_
      obtain ⟨w28, hw28, hrw28, h⟩ := st_open h
      refine ro_skip (d := none) rfl (.free rfl) rfl (q_store (T := T48) (u := x27) (a := a5) rfl ok49 rfl rfl hrw28 hw28) ?_
      obtain ⟨w29, hw29, hrw29, h⟩ := st_open h
      refine ro_skip (d := none) rfl (.free rfl) rfl (q_store (T := T35) (u := (⟨(0 : Int), (0 : Int), (0 : Int), ([] : List UInt8)⟩ : S35)) (a := a7) rfl ok75 rfl rfl hrw29 hw29) ?_
      refine ro_val (d := (some 6)) rfl (.free rfl) rfl (q_assign (v := .int .i64 ((93 : Int))) rfl rfl) ?_
      refine ro_nil ?_
      refine wp_ret ?_
      obtain ⟨x30, hx30, h⟩ := h
      obtain ⟨x31, hx31, h⟩ := h
      exact ret_ok rfl (.cons (.cell (T := T48) (u := x30) (a := a5) ok49 rfl hx30) (.cons (.cell (T := T35) (u := x31) (a := a7) ok75 rfl hx31) (.cons (.tmp (v := .int .i64 ((93 : Int))) rfl) .nil))) ⟨(x30, x31, (93 : Int)), rfl, h⟩
    · refine wp_skip ?_
      refine wp_seq ?_
      refine wp_text [0, 1, 2, 3, 4, 5] rfl ?_
      refine ro_val (d := (some 38)) rfl (.free rfl) rfl (q_fieldAddr (a := a3) (off := 66) rfl Try.underlying49 rfl rfl ok47 (by decide) rfl) ?_
      obtain ⟨x32, hx32, h⟩ := h
      refine ro_val (d := (some 39)) rfl (.free rfl) rfl (q_load (T := tSlc) (u := x32) (a := (a3.add 66)) rfl ok47 rfl hx32) ?_
      refine ro_val (d := (some 40)) rfl (.free rfl) rfl (q_move (v := .int .i64 (i_2)) rfl rfl) ?_
      refine ro_wp rfl (.free rfl) (wp_cl (d := (some 41)) rfl (q_call (k := 50) (l := [tSlc.enc (x32), .int .i64 (i_2)]) rfl ent50 rfl) h ?_)
      intro r34 w33 h
      refine ro_val (d := (some 42)) rfl (.free rfl) rfl (q_fieldAddr (a := a3) (off := 66) rfl Try.underlying49 rfl rfl ok47 (by decide) rfl) ?_
      obtain ⟨w35, hw35, hrw35, h⟩ := st_open h
      refine ro_skip (d := none) rfl (.free rfl) rfl (q_store (T := tSlc) (u := r34) (a := (a3.add 66)) rfl ok47 rfl rfl hrw35 hw35) ?_
      refine ro_nil ?_
      refine wp_seq ?_
      obtain ⟨w36, hw36, h⟩ := dr_open h
      refine wp_drawn 5 mixed rfl (by kernel_rfl) (by intro c a d v w h; cases d <;> exact h) hw36 (fun hD => ?_)
      obtain ⟨x37, hx37, h⟩ := h
      refine rd_read (i := 0) (d := (some 43)) (fun W => (RdAt T48 a3 W) x37) hD (by kernel_rfl) (by kernel_rfl) rfl (.free rfl) rfl (fun W hr => q_load (T := T48) (u := x37) (a := a3) rfl ok49 rfl hr) hx37 ?_
      obtain ⟨x38, hx38, h⟩ := h
      refine rd_read (i := 1) (d := (some 44)) (fun W => (RdAt T35 a18 W) x38) hD (by kernel_rfl) (by kernel_rfl) rfl (.free rfl) rfl (fun W hr => q_load (T := T35) (u := x38) (a := a18) rfl ok75 rfl hr) hx38 ?_
      refine rd_one (i := 2) (by kernel_rfl) ?_
      obtain ⟨w39, hw39, hrw39, h⟩ := st_open h
      obtain ⟨hk40, h⟩ := h
      refine po_skip (d := none) rfl (.free rfl) rfl (q_store (T := T48) (u := x37) (a := a5) rfl ok49 rfl rfl hrw39 hw39) ⟨(hk_keep (fun _ => hk40) (hk_wait (by kernel_rfl) hk_nil)), ?_⟩
      refine rd_one (i := 3) (by kernel_rfl) ?_
      obtain ⟨w41, hw41, hrw41, h⟩ := st_open h
      refine po_skip (d := none) rfl (.free rfl) rfl (q_store (T := T35) (u := x38) (a := a7) rfl ok75 rfl rfl hrw41 hw41) ⟨(hk_wait (by kernel_rfl) (hk_wait (by kernel_rfl) hk_nil)), ?_⟩
      refine rd_pure (i := 4) (d := (some 6)) hD (by kernel_rfl) (by kernel_rfl) rfl (.free rfl) rfl (fun _ => q_assign (v := .int .i64 ((0 : Int))) rfl rfl) ?_
      refine rd_nil (by kernel_rfl) ?_
      refine wp_ret ?_
      obtain ⟨x42, hx42, h⟩ := h
      obtain ⟨x43, hx43, h⟩ := h
      exact ret_ok rfl (.cons (.cell (T := T48) (u := x42) (a := a5) ok49 rfl hx42) (.cons (.cell (T := T35) (u := x43) (a := a7) ok75 rfl hx43) (.cons (.tmp (v := .int .i64 ((0 : Int))) rfl) .nil))) ⟨(x42, x43, (0 : Int)), rfl, h⟩

-- moiety/moietyref09.Copy
def F38_j1 (a3 : Addr) (a5 : Addr) (w15 : World) (R : (S48 × Int) → World → Prop) : Prop :=
  ex (RdAt T48 a3 w15) fun x16 =>
  st T48 a5 x16 w15 fun w17 =>
  ex (RdAt T48 a5 w17) fun x18 =>
  R (x18, (0 : Int)) w17
def F38 (n_1 : S48) (i_2 : Int) (w : World) (R : (S48 × Int) → World → Prop) : Prop :=
  nw 49 T48 n_1 w fun a3 w4 =>
  nw 49 T48 Z48 w4 fun a5 w6 =>
  ex (fun x => (!(decide (i_2 < (0 : Int)))) = true → (RdAt tSlc (a3.add 66) w6) x) fun x7 =>
  if ((decide (i_2 < (0 : Int))) || (decide (i_2 ≥ (x7.len : Int)))) = true then (
    ex (RdAt T48 a3 w6) fun x8 =>
    st T48 a5 x8 w6 fun w9 =>
    ex (RdAt T48 a5 w9) fun x10 =>
    R (x10, (92 : Int)) w9
  ) else (
    ex (RdAt tSlc (a3.add 66) w6) fun x11 =>
    if ((x11.len : Int) == (1000 : Int)) = true then (
      ex (RdAt T48 a3 w6) fun x12 =>
      st T48 a5 x12 w6 fun w13 =>
      ex (RdAt T48 a5 w13) fun x14 =>
      R (x14, (91 : Int)) w13
    ) else (
      dr w6 fun w19 =>
      ex (RdAt tSlc (a3.add 66) w19) fun x20 =>
      ex (RdAt tSlc (a3.add 66) w19) fun x21 =>
      ex (IxA x21 4 i_2) fun a22 =>
      ex (RdAt T35 a22 w19) fun x23 =>
      bth (
        nwS 75 T35 ([] : List S35) w19 fun a24 w25 =>
        bth (
          apd 75 T35 4 40 (⟨some a24, 0, 0⟩ : Slc) x20 w25 fun r27 w26 =>
          kp ((RdAt tSlc (a3.add 66) w26) x21) <|
          kp ((RdAt T35 a22 w26) x23) <|
          apl 75 T35 4 40 r27 [x23] w26 fun r33 w32 =>
          kp ((RdAt tSlc (a3.add 66) w32) x20) <|
          kp ((RdAt tSlc (a3.add 66) w32) x21) <|
          kp ((RdAt T35 a22 w32) x23) <|
          st tSlc (a3.add 66) r33 w32 fun w37 =>
          F38_j1 a3 a5 w37 R
        ) (
          nwS 75 T35 [x23] w25 fun a38 w39 =>
          apd 75 T35 4 40 (⟨some a24, 0, 0⟩ : Slc) x20 w39 fun r41 w40 =>
          kp ((RdAt tSlc (a3.add 66) w40) x21) <|
          kp ((RdAt T35 a22 w40) x23) <|
          apd 75 T35 4 40 r41 (⟨some a38, 1, 1⟩ : Slc) w40 fun r45 w44 =>
          kp ((RdAt tSlc (a3.add 66) w44) x20) <|
          kp ((RdAt tSlc (a3.add 66) w44) x21) <|
          kp ((RdAt T35 a22 w44) x23) <|
          st tSlc (a3.add 66) r45 w44 fun w49 =>
          F38_j1 a3 a5 w49 R
        )
      ) (
        nwS 75 T35 [x23] w19 fun a50 w51 =>
        nwS 75 T35 ([] : List S35) w51 fun a52 w53 =>
        apd 75 T35 4 40 (⟨some a52, 0, 0⟩ : Slc) x20 w53 fun r55 w54 =>
        kp ((RdAt tSlc (a3.add 66) w54) x21) <|
        kp ((RdAt T35 a22 w54) x23) <|
        apd 75 T35 4 40 r55 (⟨some a50, 1, 1⟩ : Slc) w54 fun r59 w58 =>
        kp ((RdAt tSlc (a3.add 66) w58) x20) <|
        kp ((RdAt tSlc (a3.add 66) w58) x21) <|
        kp ((RdAt T35 a22 w58) x23) <|
        st tSlc (a3.add 66) r59 w58 fun w63 =>
        F38_j1 a3 a5 w63 R
      )
    )
  )
theorem F38_ok {n_1 : S48} {i_2 : Int} {w : World} {R : (S48 × Int) → World → Prop} (h : F38 n_1 i_2 w R) : cl Try.prog 38 [T48.enc (n_1), .int .i64 (i_2)] (tTup2 T48 (tInt .i64)) w R := by
  unfold F38 at h
  refine calls_start 34 Try.func38 rfl rfl (Nat.le_of_ble_eq_true rfl) ?_
  refine wp_seq ?_
  refine wp_text [0, 1, 2] rfl ?_
  obtain ⟨a3, w4, ha3, hw4, h⟩ := nw_open h
  refine ro_val (d := (some 2)) rfl (.free rfl) rfl (q_box (u := n_1) rfl ok49 rfl ha3 hw4) ?_
  obtain ⟨a5, w6, ha5, hw6, h⟩ := nw_open h
  refine ro_val (d := (some 4)) rfl (.free rfl) rfl (q_alloc (u := Z48) rfl ok49 inf49 ha5 hw6) ?_
  refine ro_val (d := (some 5)) rfl (.free rfl) rfl (q_assign (v := .int .i64 ((0 : Int))) rfl rfl) ?_
  refine ro_nil ?_
  refine wp_seq ?_
  refine wp_seq ?_
  refine wp_text [0, 1, 2, 3, 4, 5, 6, 7, 8] rfl ?_
  refine ro_val (d := (some 6)) rfl (.free rfl) rfl (q_move (v := .int .i64 (i_2)) rfl rfl) ?_
  refine ro_val (d := (some 7)) rfl (.free rfl) rfl (q_lss (a := i_2) (b := (0 : Int)) rfl rfl rfl) ?_
  refine ro_val (d := (some 8)) rfl (.free rfl) rfl (q_move (v := .bool ((decide (i_2 < (0 : Int))))) rfl rfl) ?_
  refine ro_gval (g := (!(decide (i_2 < (0 : Int))))) (d := (some 9)) rfl (.no 2 8 true (decide (i_2 < (0 : Int))) rfl rfl rfl rfl) rfl (fun hg => q_move (v := .int .i64 (i_2)) rfl rfl) ?_
  refine ro_gval (g := (!(decide (i_2 < (0 : Int))))) (d := (some 10)) rfl (.no 2 8 true (decide (i_2 < (0 : Int))) rfl rfl rfl rfl) rfl (fun hg => q_fieldAddr (a := a3) (off := 66) rfl Try.underlying49 rfl rfl ok47 (by decide) rfl) ?_
  obtain ⟨x7, hx7, h⟩ := h
  refine ro_gval (g := (!(decide (i_2 < (0 : Int))))) (d := (some 11)) rfl (.no 2 8 true (decide (i_2 < (0 : Int))) rfl rfl rfl rfl) rfl (fun hg => q_load (T := tSlc) (u := x7) (a := (a3.add 66)) rfl ok47 (gvb_yes hg) (hx7 hg)) ?_
  refine ro_gval (g := (!(decide (i_2 < (0 : Int))))) (d := (some 12)) rfl (.no 2 8 true (decide (i_2 < (0 : Int))) rfl rfl rfl rfl) rfl (fun hg => q_len (s := x7) rfl Try.underlying47 (gvb_yes hg)) ?_
  refine ro_gval (g := (!(decide (i_2 < (0 : Int))))) (d := (some 13)) rfl (.no 2 8 true (decide (i_2 < (0 : Int))) rfl rfl rfl rfl) rfl (fun hg => q_geq (a := i_2) (b := (x7.len : Int)) rfl (gvb_yes hg) (gvb_yes hg)) ?_
  refine ro_val (d := (some 14)) rfl (.free rfl) rfl (q_pickGF (a := (decide (i_2 < (0 : Int)))) (c := (decide (i_2 ≥ (x7.len : Int)))) rfl rfl rfl rfl) ?_
  refine ro_nil ?_
  refine wp_if (b := ((decide (i_2 < (0 : Int))) || (decide (i_2 ≥ (x7.len : Int))))) rfl h (fun hb65 h => ?_) (fun hb65 h => ?_)
  · refine wp_seq ?_
    refine wp_text [0, 1, 2] rfl ?_
    obtain ⟨x8, hx8, h⟩ := h
    refine ro_val (d := (some 15)) rfl (.free rfl) rfl (q_load (T := T48) (u := x8) (a := a3) rfl ok49 rfl hx8) ?_
    obtain ⟨w9, hw9, hrw9, h⟩ := st_open h
    refine ro_skip (d := none) rfl (.free rfl) rfl (q_store (T := T48) (u := x8) (a := a5) rfl ok49 rfl rfl hrw9 hw9) ?_
    refine ro_val (d := (some 5)) rfl (.free rfl) rfl (q_assign (v := .int .i64 ((92 : Int))) rfl rfl) ?_
    refine ro_nil ?_
    refine wp_ret ?_
    obtain ⟨x10, hx10, h⟩ := h
    exact ret_ok rfl (.cons (.cell (T := T48) (u := x10) (a := a5) ok49 rfl hx10) (.cons (.tmp (v := .int .i64 ((92 : Int))) rfl) .nil)) ⟨(x10, (92 : Int)), rfl, h⟩
  · refine wp_skip ?_
    refine wp_seq ?_
    refine wp_seq ?_
    refine wp_text [0, 1, 2, 3] rfl ?_
    refine ro_val (d := (some 16)) rfl (.free rfl) rfl (q_fieldAddr (a := a3) (off := 66) rfl Try.underlying49 rfl rfl ok47 (by decide) rfl) ?_
    obtain ⟨x11, hx11, h⟩ := h
    refine ro_val (d := (some 17)) rfl (.free rfl) rfl (q_load (T := tSlc) (u := x11) (a := (a3.add 66)) rfl ok47 rfl hx11) ?_
    refine ro_val (d := (some 18)) rfl (.free rfl) rfl (q_len (s := x11) rfl Try.underlying47 rfl) ?_
    refine ro_val (d := (some 19)) rfl (.free rfl) rfl (q_eql (a := (x11.len : Int)) (b := (1000 : Int)) rfl rfl rfl) ?_
    refine ro_nil ?_
    refine wp_if (b := ((x11.len : Int) == (1000 : Int))) rfl h (fun hb64 h => ?_) (fun hb64 h => ?_)
    · refine wp_seq ?_
      refine wp_text [0, 1, 2] rfl ?_
      obtain ⟨x12, hx12, h⟩ := h
      refine ro_val (d := (some 20)) rfl (.free rfl) rfl (q_load (T := T48) (u := x12) (a := a3) rfl ok49 rfl hx12) ?_
      obtain ⟨w13, hw13, hrw13, h⟩ := st_open h
      refine ro_skip (d := none) rfl (.free rfl) rfl (q_store (T := T48) (u := x12) (a := a5) rfl ok49 rfl rfl hrw13 hw13) ?_
      refine ro_val (d := (some 5)) rfl (.free rfl) rfl (q_assign (v := .int .i64 ((91 : Int))) rfl rfl) ?_
      refine ro_nil ?_
      refine wp_ret ?_
      obtain ⟨x14, hx14, h⟩ := h
      exact ret_ok rfl (.cons (.cell (T := T48) (u := x14) (a := a5) ok49 rfl hx14) (.cons (.tmp (v := .int .i64 ((91 : Int))) rfl) .nil)) ⟨(x14, (91 : Int)), rfl, h⟩
    · refine wp_skip ?_
      refine seq_join (σ := Unit) (J := fun (s : Unit) w => F38_j1 a3 a5 w R) (fr := fun g (s : Unit) => upd (upd (g) 2 (.pointer (some a3))) 4 (.pointer (some a5))) ?_ ?_
      · rintro ⟨⟩ g w15 h
        unfold F38_j1 at h
        refine wp_seq ?_
        refine wp_text [0, 1, 2] rfl ?_
        obtain ⟨x16, hx16, h⟩ := h
        refine ro_val (d := (some 33)) rfl (.free rfl) rfl (q_load (T := T48) (u := x16) (a := a3) rfl ok49 rfl hx16) ?_
        obtain ⟨w17, hw17, hrw17, h⟩ := st_open h
        refine ro_skip (d := none) rfl (.free rfl) rfl (q_store (T := T48) (u := x16) (a := a5) rfl ok49 rfl rfl hrw17 hw17) ?_
        refine ro_val (d := (some 5)) rfl (.free rfl) rfl (q_assign (v := .int .i64 ((0 : Int))) rfl rfl) ?_
        refine ro_nil ?_
        refine wp_ret ?_
        obtain ⟨x18, hx18, h⟩ := h
        exact ret_ok rfl (.cons (.cell (T := T48) (u := x18) (a := a5) ok49 rfl hx18) (.cons (.tmp (v := .int .i64 ((0 : Int))) rfl) .nil)) ⟨(x18, (0 : Int)), rfl, h⟩
      · obtain ⟨w19, hw19, h⟩ := dr_open h
        refine wp_drawn 13 mixed rfl (by kernel_rfl) (by intro c a d v w h; cases d <;> exact h) hw19 (fun hD => ?_)
        refine rd_pure (i := 1) (d := (some 22)) hD (by kernel_rfl) (by kernel_rfl) rfl (.free rfl) rfl (fun _ => q_fieldAddr (a := a3) (off := 66) rfl Try.underlying49 rfl rfl ok47 (by decide) rfl) ?_
        refine rd_pure (i := 4) (d := (some 25)) hD (by kernel_rfl) (by kernel_rfl) rfl (.free rfl) rfl (fun _ => q_fieldAddr (a := a3) (off := 66) rfl Try.underlying49 rfl rfl ok47 (by decide) rfl) ?_
        refine rd_pure (i := 6) (d := (some 27)) hD (by kernel_rfl) (by kernel_rfl) rfl (.free rfl) rfl (fun _ => q_move (v := .int .i64 (i_2)) rfl rfl) ?_
        obtain ⟨x20, hx20, h⟩ := h
        refine rd_read (i := 2) (d := (some 23)) (fun W => (RdAt tSlc (a3.add 66) W) x20) hD (by kernel_rfl) (by kernel_rfl) rfl (.free rfl) rfl (fun W hr => q_load (T := tSlc) (u := x20) (a := (a3.add 66)) rfl ok47 rfl hr) hx20 ?_
        obtain ⟨x21, hx21, h⟩ := h
        refine rd_read (i := 5) (d := (some 26)) (fun W => (RdAt tSlc (a3.add 66) W) x21) hD (by kernel_rfl) (by kernel_rfl) rfl (.free rfl) rfl (fun W hr => q_load (T := tSlc) (u := x21) (a := (a3.add 66)) rfl ok47 rfl hr) hx21 ?_
        obtain ⟨a22, ha22, h⟩ := h
        refine rd_pure (i := 7) (d := (some 28)) hD (by kernel_rfl) (by kernel_rfl) rfl (.free rfl) rfl (fun _ => q_indexAddr (s := x21) (i := i_2) rfl Try.underlying47 ok75 rfl rfl ha22) ?_
        obtain ⟨x23, hx23, h⟩ := h
        refine rd_read (i := 8) (d := (some 29)) (fun W => (RdAt T35 a22 W) x23) hD (by kernel_rfl) (by kernel_rfl) rfl (.free rfl) rfl (fun W hr => q_load (T := T35) (u := x23) (a := a22) rfl ok75 rfl hr) hx23 ?_
        obtain ⟨h, h'⟩ := h
        refine rd_two (i := 0) (j := 9) (by kernel_rfl) ?_ ?_
        · clear h'
          obtain ⟨a24, w25, ha24, hw25, h⟩ := nwS_open h
          refine po_val (d := (some 21)) rfl (.free rfl) rfl (q_row0 (T := T35) rfl Try.underlying47 ok75 inf75 ha24 hw25) ⟨(hk_keep (fun h => keep_RdAt hw25 h) (hk_keep (fun h => keep_RdAt hw25 h) (hk_keep (fun h => keep_RdAt hw25 h) hk_nil))), ?_⟩
          obtain ⟨h, h'⟩ := h
          refine rd_two (i := 3) (j := 9) (by kernel_rfl) ?_ ?_
          · clear h'
            refine po_wp rfl (.free rfl) (wp_append (d := (some 24)) (T := T35) rfl rfl Try.underlying47 ⟨_, Try.underlying47⟩ ok75 inf75 rfl rfl (Nat.lt_of_lt_of_le Nat.zero_lt_one (Nat.le_of_ble_eq_true rfl)) rfl rfl h ?_)
            intro r27 w26 h
            obtain ⟨hk28, h⟩ := h
            obtain ⟨hk29, h⟩ := h
            refine ⟨(hk_keep (fun _ => hk29) (hk_keep (fun _ => hk28) (hk_wait (by kernel_rfl) hk_nil))), ?_⟩
            refine rd_one (i := 9) (by kernel_rfl) ?_
            obtain ⟨a30, w31, ha30, hw31, h⟩ := apl_open h
            refine po_val (d := (some 30)) rfl (.free rfl) rfl (q_rowOf (T := T35) (xs := [x23]) rfl Try.underlying47 ok75 inf75 rfl (by decide) (by decide) rfl ha30 hw31) ⟨(hk_wait (by kernel_rfl) (hk_keep (fun h => keep_RdAt hw31 h) (hk_keep (fun h => keep_RdAt hw31 h) hk_nil))), ?_⟩
            refine rd_one (i := 10) (by kernel_rfl) ?_
            refine po_wp rfl (.free rfl) (wp_append (d := (some 31)) (T := T35) rfl rfl Try.underlying47 ⟨_, Try.underlying47⟩ ok75 inf75 rfl rfl (Nat.lt_of_lt_of_le Nat.zero_lt_one (Nat.le_of_ble_eq_true rfl)) rfl rfl h ?_)
            intro r33 w32 h
            obtain ⟨hk34, h⟩ := h
            obtain ⟨hk35, h⟩ := h
            obtain ⟨hk36, h⟩ := h
            refine ⟨(hk_keep (fun _ => hk36) (hk_keep (fun _ => hk35) (hk_keep (fun _ => hk34) hk_nil))), ?_⟩
            refine rd_pure (i := 11) (d := (some 32)) hD (by kernel_rfl) (by kernel_rfl) rfl (.free rfl) rfl (fun _ => q_fieldAddr (a := a3) (off := 66) rfl Try.underlying49 rfl rfl ok47 (by decide) rfl) ?_
            refine rd_one (i := 12) (by kernel_rfl) ?_
            obtain ⟨w37, hw37, hrw37, h⟩ := st_open h
            refine po_skip (d := none) rfl (.free rfl) rfl (q_store (T := tSlc) (u := r33) (a := (a3.add 66)) rfl ok47 rfl rfl hrw37 hw37) ⟨(hk_wait (by kernel_rfl) (hk_wait (by kernel_rfl) (hk_wait (by kernel_rfl) hk_nil))), ?_⟩
            refine rd_nil (by kernel_rfl) ?_
            exact ⟨(), _, arr (upd_step (upd_step rfl rfl) rfl), h⟩
          · replace h := h'; clear h'
            obtain ⟨a38, w39, ha38, hw39, h⟩ := nwS_open h
            refine po_val (d := (some 30)) rfl (.free rfl) rfl (q_rowOf (T := T35) (xs := [x23]) rfl Try.underlying47 ok75 inf75 rfl (by decide) (by decide) rfl ha38 hw39) ⟨(hk_wait (by kernel_rfl) (hk_keep (fun h => keep_RdAt hw39 h) (hk_keep (fun h => keep_RdAt hw39 h) hk_nil))), ?_⟩
            refine rd_one (i := 3) (by kernel_rfl) ?_
            refine po_wp rfl (.free rfl) (wp_append (d := (some 24)) (T := T35) rfl rfl Try.underlying47 ⟨_, Try.underlying47⟩ ok75 inf75 rfl rfl (Nat.lt_of_lt_of_le Nat.zero_lt_one (Nat.le_of_ble_eq_true rfl)) rfl rfl h ?_)
            intro r41 w40 h
            obtain ⟨hk42, h⟩ := h
            obtain ⟨hk43, h⟩ := h
            refine ⟨(hk_keep (fun _ => hk43) (hk_keep (fun _ => hk42) (hk_wait (by kernel_rfl) hk_nil))), ?_⟩
            refine rd_one (i := 10) (by kernel_rfl) ?_
            refine po_wp rfl (.free rfl) (wp_append (d := (some 31)) (T := T35) rfl rfl Try.underlying47 ⟨_, Try.underlying47⟩ ok75 inf75 rfl rfl (Nat.lt_of_lt_of_le Nat.zero_lt_one (Nat.le_of_ble_eq_true rfl)) rfl rfl h ?_)
            intro r45 w44 h
            obtain ⟨hk46, h⟩ := h
            obtain ⟨hk47, h⟩ := h
            obtain ⟨hk48, h⟩ := h
            refine ⟨(hk_keep (fun _ => hk48) (hk_keep (fun _ => hk47) (hk_keep (fun _ => hk46) hk_nil))), ?_⟩
            refine rd_pure (i := 11) (d := (some 32)) hD (by kernel_rfl) (by kernel_rfl) rfl (.free rfl) rfl (fun _ => q_fieldAddr (a := a3) (off := 66) rfl Try.underlying49 rfl rfl ok47 (by decide) rfl) ?_
            refine rd_one (i := 12) (by kernel_rfl) ?_
            obtain ⟨w49, hw49, hrw49, h⟩ := st_open h
            refine po_skip (d := none) rfl (.free rfl) rfl (q_store (T := tSlc) (u := r45) (a := (a3.add 66)) rfl ok47 rfl rfl hrw49 hw49) ⟨(hk_wait (by kernel_rfl) (hk_wait (by kernel_rfl) (hk_wait (by kernel_rfl) hk_nil))), ?_⟩
            refine rd_nil (by kernel_rfl) ?_
            exact ⟨(), _, arr (upd_step (upd_step rfl rfl) rfl), h⟩
        · replace h := h'; clear h'
          obtain ⟨a50, w51, ha50, hw51, h⟩ := nwS_open h
          refine po_val (d := (some 30)) rfl (.free rfl) rfl (q_rowOf (T := T35) (xs := [x23]) rfl Try.underlying47 ok75 inf75 rfl (by decide) (by decide) rfl ha50 hw51) ⟨(hk_wait (by kernel_rfl) (hk_keep (fun h => keep_RdAt hw51 h) (hk_keep (fun h => keep_RdAt hw51 h) hk_nil))), ?_⟩
          refine rd_one (i := 0) (by kernel_rfl) ?_
          obtain ⟨a52, w53, ha52, hw53, h⟩ := nwS_open h
          refine po_val (d := (some 21)) rfl (.free rfl) rfl (q_row0 (T := T35) rfl Try.underlying47 ok75 inf75 ha52 hw53) ⟨(hk_keep (fun h => keep_RdAt hw53 h) (hk_keep (fun h => keep_RdAt hw53 h) (hk_keep (fun h => keep_RdAt hw53 h) hk_nil))), ?_⟩
          refine rd_one (i := 3) (by kernel_rfl) ?_
          refine po_wp rfl (.free rfl) (wp_append (d := (some 24)) (T := T35) rfl rfl Try.underlying47 ⟨_, Try.underlying47⟩ ok75 inf75 rfl rfl (Nat.lt_of_lt_of_le Nat.zero_lt_one (Nat.le_of_ble_eq_true rfl)) rfl rfl h ?_)
          intro r55 w54 h
          obtain ⟨hk56, h⟩ := h
          obtain ⟨hk57, h⟩ := h
          refine ⟨(hk_keep (fun _ => hk57) (hk_keep (fun _ => hk56) (hk_wait (by kernel_rfl) hk_nil))), ?_⟩
          refine rd_one (i := 10) (by kernel_rfl) ?_
          refine po_wp rfl (.free rfl) (wp_append (d := (some 31)) (T := T35) rfl rfl Try.underlying47 ⟨_, Try.underlying47⟩ ok75 inf75 rfl rfl (Nat.lt_of_lt_of_le Nat.zero_lt_one (Nat.le_of_ble_eq_true rfl)) rfl rfl h ?_)
          intro r59 w58 h
          obtain ⟨hk60, h⟩ := h
          obtain ⟨hk61, h⟩ := h
          obtain ⟨hk62, h⟩ := h
          refine ⟨(hk_keep (fun _ => hk62) (hk_keep (fun _ => hk61) (hk_keep (fun _ => hk60) hk_nil))), ?_⟩
          refine rd_pure (i := 11) (d := (some 32)) hD (by kernel_rfl) (by kernel_rfl) rfl (.free rfl) rfl (fun _ => q_fieldAddr (a := a3) (off := 66) rfl Try.underlying49 rfl rfl ok47 (by decide) rfl) ?_
          refine rd_one (i := 12) (by kernel_rfl) ?_
          obtain ⟨w63, hw63, hrw63, h⟩ := st_open h
          refine po_skip (d := none) rfl (.free rfl) rfl (q_store (T := tSlc) (u := r59) (a := (a3.add 66)) rfl ok47 rfl rfl hrw63 hw63) ⟨(hk_wait (by kernel_rfl) (hk_wait (by kernel_rfl) (hk_wait (by kernel_rfl) hk_nil))), ?_⟩
          refine rd_nil (by kernel_rfl) ?_
          exact ⟨(), _, arr (upd_step (upd_step rfl rfl) rfl), h⟩

end Go.Proofs.Ytpflfnaflacfgaa.Cf
