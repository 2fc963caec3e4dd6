/- Characteristic formulae of Go functions, and that they are. Printed by gen.py (own tool). -/
import Derived.Test.YtpflfnaflacfgaaTy
namespace Go.Proofs.Ytpflfnaflacfgaa.Cf
open Go
set_option maxRecDepth 100000
set_option maxHeartbeats 1000000
set_option linter.unusedVariables false
set_option linter.unusedSimpArgs false

-- moiety/moietyref09.Lose
def F39 (n_1 : S48) (i_2 : Int) (w : World) (R : (S48 × Int) → World → Prop) : Prop :=
  nw 49 T48 n_1 w fun a3 w4 =>
  nw 49 T48 Z48 w4 fun a5 w6 =>
  ex (fun x => (!(decide (i_2 < (0 : Int)))) = true → (RdAt tSlc (a3.add 66) w6) x) fun x7 =>
  if ((decide (i_2 < (0 : Int))) || (decide (i_2 ≥ (x7.len : Int)))) = true then (
    ex (RdAt T48 a3 w6) fun x8 =>
    st T48 a5 x8 w6 fun w9 =>
    ex (RdAt T48 a5 w9) fun x10 =>
    R (x10, (92 : Int)) w9
  ) else (
    ex (RdAt tSlc (a3.add 66) w6) fun x11 =>
    cl Try.prog 50 [tSlc.enc (x11), .int .i64 (i_2)] tSlc w6 fun r13 w12 =>
    st tSlc (a3.add 66) r13 w12 fun w14 =>
    ex (RdAt T48 a3 w14) fun x15 =>
    st T48 a5 x15 w14 fun w16 =>
    ex (RdAt T48 a5 w16) fun x17 =>
    R (x17, (0 : Int)) w16
  )
theorem F39_ok {n_1 : S48} {i_2 : Int} {w : World} {R : (S48 × Int) → World → Prop} (h : F39 n_1 i_2 w R) : cl Try.prog 39 [T48.enc (n_1), .int .i64 (i_2)] (tTup2 T48 (tInt .i64)) w R := by
  unfold F39 at h
  refine calls_start 22 Try.func39 rfl rfl (Nat.le_of_ble_eq_true rfl) ?_
  refine wp_seq ?_
  refine wp_text [0, 1, 2] rfl ?_
  obtain ⟨a3, w4, ha3, hw4, h⟩ := nw_open h
  refine ro_val (d := (some 2)) rfl (.free rfl) rfl (q_box (u := n_1) rfl ok49 rfl ha3 hw4) ?_
  obtain ⟨a5, w6, ha5, hw6, h⟩ := nw_open h
  refine ro_val (d := (some 4)) rfl (.free rfl) rfl (q_alloc (u := Z48) rfl ok49 inf49 ha5 hw6) ?_
  refine ro_val (d := (some 5)) rfl (.free rfl) rfl (q_assign (v := .int .i64 ((0 : Int))) rfl rfl) ?_
  refine ro_nil ?_
  refine wp_seq ?_
  refine wp_seq ?_
  refine wp_text [0, 1, 2, 3, 4, 5, 6, 7, 8] rfl ?_
  refine ro_val (d := (some 6)) rfl (.free rfl) rfl (q_move (v := .int .i64 (i_2)) rfl rfl) ?_
  refine ro_val (d := (some 7)) rfl (.free rfl) rfl (q_lss (a := i_2) (b := (0 : Int)) rfl rfl rfl) ?_
  refine ro_val (d := (some 8)) rfl (.free rfl) rfl (q_move (v := .bool ((decide (i_2 < (0 : Int))))) rfl rfl) ?_
  refine ro_gval (g := (!(decide (i_2 < (0 : Int))))) (d := (some 9)) rfl (.no 2 8 true (decide (i_2 < (0 : Int))) rfl rfl rfl rfl) rfl (fun hg => q_move (v := .int .i64 (i_2)) rfl rfl) ?_
  refine ro_gval (g := (!(decide (i_2 < (0 : Int))))) (d := (some 10)) rfl (.no 2 8 true (decide (i_2 < (0 : Int))) rfl rfl rfl rfl) rfl (fun hg => q_fieldAddr (a := a3) (off := 66) rfl Try.underlying49 rfl rfl ok47 (by decide) rfl) ?_
  obtain ⟨x7, hx7, h⟩ := h
  refine ro_gval (g := (!(decide (i_2 < (0 : Int))))) (d := (some 11)) rfl (.no 2 8 true (decide (i_2 < (0 : Int))) rfl rfl rfl rfl) rfl (fun hg => q_load (T := tSlc) (u := x7) (a := (a3.add 66)) rfl ok47 (gvb_yes hg) (hx7 hg)) ?_
  refine ro_gval (g := (!(decide (i_2 < (0 : Int))))) (d := (some 12)) rfl (.no 2 8 true (decide (i_2 < (0 : Int))) rfl rfl rfl rfl) rfl (fun hg => q_len (s := x7) rfl Try.underlying47 (gvb_yes hg)) ?_
  refine ro_gval (g := (!(decide (i_2 < (0 : Int))))) (d := (some 13)) rfl (.no 2 8 true (decide (i_2 < (0 : Int))) rfl rfl rfl rfl) rfl (fun hg => q_geq (a := i_2) (b := (x7.len : Int)) rfl (gvb_yes hg) (gvb_yes hg)) ?_
  refine ro_val (d := (some 14)) rfl (.free rfl) rfl (q_pickGF (a := (decide (i_2 < (0 : Int)))) (c := (decide (i_2 ≥ (x7.len : Int)))) rfl rfl rfl rfl) ?_
  refine ro_nil ?_
  refine wp_if (b := ((decide (i_2 < (0 : Int))) || (decide (i_2 ≥ (x7.len : Int))))) rfl h (fun hb18 h => ?_) (fun hb18 h => ?_)
  · refine wp_seq ?_
    refine wp_text [0, 1, 2] rfl ?_
    obtain ⟨x8, hx8, h⟩ := h
    refine ro_val (d := (some 15)) rfl (.free rfl) rfl (q_load (T := T48) (u := x8) (a := a3) rfl ok49 rfl hx8) ?_
    obtain ⟨w9, hw9, hrw9, h⟩ := st_open h
    refine ro_skip (d := none) rfl (.free rfl) rfl (q_store (T := T48) (u := x8) (a := a5) rfl ok49 rfl rfl hrw9 hw9) ?_
    refine ro_val (d := (some 5)) rfl (.free rfl) rfl (q_assign (v := .int .i64 ((92 : Int))) rfl rfl) ?_
    refine ro_nil ?_
    refine wp_ret ?_
    obtain ⟨x10, hx10, h⟩ := h
    exact ret_ok rfl (.cons (.cell (T := T48) (u := x10) (a := a5) ok49 rfl hx10) (.cons (.tmp (v := .int .i64 ((92 : Int))) rfl) .nil)) ⟨(x10, (92 : Int)), rfl, h⟩
  · refine wp_skip ?_
    refine wp_seq ?_
    refine wp_text [0, 1, 2, 3, 4, 5] rfl ?_
    refine ro_val (d := (some 16)) rfl (.free rfl) rfl (q_fieldAddr (a := a3) (off := 66) rfl Try.underlying49 rfl rfl ok47 (by decide) rfl) ?_
    obtain ⟨x11, hx11, h⟩ := h
    refine ro_val (d := (some 17)) rfl (.free rfl) rfl (q_load (T := tSlc) (u := x11) (a := (a3.add 66)) rfl ok47 rfl hx11) ?_
    refine ro_val (d := (some 18)) rfl (.free rfl) rfl (q_move (v := .int .i64 (i_2)) rfl rfl) ?_
    refine ro_wp rfl (.free rfl) (wp_cl (d := (some 19)) rfl (q_call (k := 50) (l := [tSlc.enc (x11), .int .i64 (i_2)]) rfl ent50 rfl) h ?_)
    intro r13 w12 h
    refine ro_val (d := (some 20)) rfl (.free rfl) rfl (q_fieldAddr (a := a3) (off := 66) rfl Try.underlying49 rfl rfl ok47 (by decide) rfl) ?_
    obtain ⟨w14, hw14, hrw14, h⟩ := st_open h
    refine ro_skip (d := none) rfl (.free rfl) rfl (q_store (T := tSlc) (u := r13) (a := (a3.add 66)) rfl ok47 rfl rfl hrw14 hw14) ?_
    refine ro_nil ?_
    refine wp_seq ?_
    refine wp_text [0, 1, 2] rfl ?_
    obtain ⟨x15, hx15, h⟩ := h
    refine ro_val (d := (some 21)) rfl (.free rfl) rfl (q_load (T := T48) (u := x15) (a := a3) rfl ok49 rfl hx15) ?_
    obtain ⟨w16, hw16, hrw16, h⟩ := st_open h
    refine ro_skip (d := none) rfl (.free rfl) rfl (q_store (T := T48) (u := x15) (a := a5) rfl ok49 rfl rfl hrw16 hw16) ?_
    refine ro_val (d := (some 5)) rfl (.free rfl) rfl (q_assign (v := .int .i64 ((0 : Int))) rfl rfl) ?_
    refine ro_nil ?_
    refine wp_ret ?_
    obtain ⟨x17, hx17, h⟩ := h
    exact ret_ok rfl (.cons (.cell (T := T48) (u := x17) (a := a5) ok49 rfl hx17) (.cons (.tmp (v := .int .i64 ((0 : Int))) rfl) .nil)) ⟨(x17, (0 : Int)), rfl, h⟩

-- moiety/moietyref09.Cut
def F40 (n_1 : S48) (node_2 : Int) (off_3 : Bool) (w : World) (R : (S48 × Int) → World → Prop) : Prop :=
  nw 49 T48 n_1 w fun a4 w5 =>
  nw 49 T48 Z48 w5 fun a6 w7 =>
  ex (fun x => (!(decide (node_2 < (0 : Int)))) = true → (RdAt (tInt .i64) (a4.add 0) w7) x) fun x8 =>
  if ((decide (node_2 < (0 : Int))) || (decide (node_2 ≥ x8))) = true then (
    ex (RdAt T48 a4 w7) fun x9 =>
    st T48 a6 x9 w7 fun w10 =>
    ex (RdAt T48 a6 w10) fun x11 =>
    R (x11, (90 : Int)) w10
  ) else (
    ex (IxR (a4.add 2) 64 1 node_2) fun a12 =>
    st tBool a12 off_3 w7 fun w13 =>
    ex (RdAt T48 a4 w13) fun x14 =>
    st T48 a6 x14 w13 fun w15 =>
    ex (RdAt T48 a6 w15) fun x16 =>
    R (x16, (0 : Int)) w15
  )
theorem F40_ok {n_1 : S48} {node_2 : Int} {off_3 : Bool} {w : World} {R : (S48 × Int) → World → Prop} (h : F40 n_1 node_2 off_3 w R) : cl Try.prog 40 [T48.enc (n_1), .int .i64 (node_2), .bool (off_3)] (tTup2 T48 (tInt .i64)) w R := by
  unfold F40 at h
  refine calls_start 22 Try.func40 rfl rfl (Nat.le_of_ble_eq_true rfl) ?_
  refine wp_seq ?_
  refine wp_text [0, 1, 2] rfl ?_
  obtain ⟨a4, w5, ha4, hw5, h⟩ := nw_open h
  refine ro_val (d := (some 3)) rfl (.free rfl) rfl (q_box (u := n_1) rfl ok49 rfl ha4 hw5) ?_
  obtain ⟨a6, w7, ha6, hw7, h⟩ := nw_open h
  refine ro_val (d := (some 6)) rfl (.free rfl) rfl (q_alloc (u := Z48) rfl ok49 inf49 ha6 hw7) ?_
  refine ro_val (d := (some 7)) rfl (.free rfl) rfl (q_assign (v := .int .i64 ((0 : Int))) rfl rfl) ?_
  refine ro_nil ?_
  refine wp_seq ?_
  refine wp_seq ?_
  refine wp_text [0, 1, 2, 3, 4, 5, 6, 7] rfl ?_
  refine ro_val (d := (some 8)) rfl (.free rfl) rfl (q_move (v := .int .i64 (node_2)) rfl rfl) ?_
  refine ro_val (d := (some 9)) rfl (.free rfl) rfl (q_lss (a := node_2) (b := (0 : Int)) rfl rfl rfl) ?_
  refine ro_val (d := (some 10)) rfl (.free rfl) rfl (q_move (v := .bool ((decide (node_2 < (0 : Int))))) rfl rfl) ?_
  refine ro_gval (g := (!(decide (node_2 < (0 : Int))))) (d := (some 11)) rfl (.no 2 10 true (decide (node_2 < (0 : Int))) rfl rfl rfl rfl) rfl (fun hg => q_move (v := .int .i64 (node_2)) rfl rfl) ?_
  refine ro_gval (g := (!(decide (node_2 < (0 : Int))))) (d := (some 12)) rfl (.no 2 10 true (decide (node_2 < (0 : Int))) rfl rfl rfl rfl) rfl (fun hg => q_fieldAddr (a := a4) (off := 0) rfl Try.underlying49 rfl rfl ok3 (by decide) rfl) ?_
  obtain ⟨x8, hx8, h⟩ := h
  refine ro_gval (g := (!(decide (node_2 < (0 : Int))))) (d := (some 13)) rfl (.no 2 10 true (decide (node_2 < (0 : Int))) rfl rfl rfl rfl) rfl (fun hg => q_load (T := (tInt .i64)) (u := x8) (a := (a4.add 0)) rfl ok3 (gvb_yes hg) (hx8 hg)) ?_
  refine ro_gval (g := (!(decide (node_2 < (0 : Int))))) (d := (some 14)) rfl (.no 2 10 true (decide (node_2 < (0 : Int))) rfl rfl rfl rfl) rfl (fun hg => q_geq (a := node_2) (b := x8) rfl (gvb_yes hg) (gvb_yes hg)) ?_
  refine ro_val (d := (some 15)) rfl (.free rfl) rfl (q_pickGF (a := (decide (node_2 < (0 : Int)))) (c := (decide (node_2 ≥ x8))) rfl rfl rfl rfl) ?_
  refine ro_nil ?_
  refine wp_if (b := ((decide (node_2 < (0 : Int))) || (decide (node_2 ≥ x8)))) rfl h (fun hb17 h => ?_) (fun hb17 h => ?_)
  · refine wp_seq ?_
    refine wp_text [0, 1, 2] rfl ?_
    obtain ⟨x9, hx9, h⟩ := h
    refine ro_val (d := (some 16)) rfl (.free rfl) rfl (q_load (T := T48) (u := x9) (a := a4) rfl ok49 rfl hx9) ?_
    obtain ⟨w10, hw10, hrw10, h⟩ := st_open h
    refine ro_skip (d := none) rfl (.free rfl) rfl (q_store (T := T48) (u := x9) (a := a6) rfl ok49 rfl rfl hrw10 hw10) ?_
    refine ro_val (d := (some 7)) rfl (.free rfl) rfl (q_assign (v := .int .i64 ((90 : Int))) rfl rfl) ?_
    refine ro_nil ?_
    refine wp_ret ?_
    obtain ⟨x11, hx11, h⟩ := h
    exact ret_ok rfl (.cons (.cell (T := T48) (u := x11) (a := a6) ok49 rfl hx11) (.cons (.tmp (v := .int .i64 ((90 : Int))) rfl) .nil)) ⟨(x11, (90 : Int)), rfl, h⟩
  · refine wp_skip ?_
    refine wp_seq ?_
    refine wp_text [0, 1, 2, 3, 4] rfl ?_
    refine ro_val (d := (some 17)) rfl (.free rfl) rfl (q_move (v := .int .i64 (node_2)) rfl rfl) ?_
    refine ro_val (d := (some 18)) rfl (.free rfl) rfl (q_move (v := .bool (off_3)) rfl rfl) ?_
    refine ro_val (d := (some 19)) rfl (.free rfl) rfl (q_fieldAddr (a := a4) (off := 2) rfl Try.underlying49 rfl rfl ok46 (by decide) rfl) ?_
    obtain ⟨a12, ha12, h⟩ := h
    refine ro_val (d := (some 20)) rfl (.free rfl) rfl (q_indexAddrA (b := (a4.add 2)) (i := node_2) rfl Try.underlying46 ok4 rfl rfl ha12) ?_
    obtain ⟨w13, hw13, hrw13, h⟩ := st_open h
    refine ro_skip (d := none) rfl (.free rfl) rfl (q_store (T := tBool) (u := off_3) (a := a12) rfl ok4 rfl rfl hrw13 hw13) ?_
    refine ro_nil ?_
    refine wp_seq ?_
    refine wp_text [0, 1, 2] rfl ?_
    obtain ⟨x14, hx14, h⟩ := h
    refine ro_val (d := (some 21)) rfl (.free rfl) rfl (q_load (T := T48) (u := x14) (a := a4) rfl ok49 rfl hx14) ?_
    obtain ⟨w15, hw15, hrw15, h⟩ := st_open h
    refine ro_skip (d := none) rfl (.free rfl) rfl (q_store (T := T48) (u := x14) (a := a6) rfl ok49 rfl rfl hrw15 hw15) ?_
    refine ro_val (d := (some 7)) rfl (.free rfl) rfl (q_assign (v := .int .i64 ((0 : Int))) rfl rfl) ?_
    refine ro_nil ?_
    refine wp_ret ?_
    obtain ⟨x16, hx16, h⟩ := h
    exact ret_ok rfl (.cons (.cell (T := T48) (u := x16) (a := a6) ok49 rfl hx16) (.cons (.tmp (v := .int .i64 ((0 : Int))) rfl) .nil)) ⟨(x16, (0 : Int)), rfl, h⟩

-- moiety/moietyref09.Purge
def F41_j2 (i_14 : Int) (l_18 : Slc) (w19 : World) (K16 : Slc × Int → World → Prop) (R : (S48 × Int) → World → Prop) : Prop :=
  K16 (l_18, (IntKind.i64.wrap (i_14 + (1 : Int)))) w19
def F41_l1 (node_2 : Int) (a3 : Addr) (a5 : Addr) (l_13 : Slc) (i_14 : Int) (w15 : World) (K16 : Slc × Int → World → Prop) (R : (S48 × Int) → World → Prop) : Prop :=
  ex (RdAt tSlc (a3.add 66) w15) fun x17 =>
  if (decide (i_14 < (x17.len : Int))) = true then (
    ex (RdAt tSlc (a3.add 66) w15) fun x20 =>
    ex (IxA x20 4 i_14) fun a21 =>
    ex (RdAt (tInt .i64) (a21.add 2) w15) fun x22 =>
    if (x22 != node_2) = true then (
      ex (RdAt tSlc (a3.add 66) w15) fun x23 =>
      ex (IxA x23 4 i_14) fun a24 =>
      ex (RdAt T35 a24 w15) fun x25 =>
      apl 75 T35 4 40 l_13 [x25] w15 fun r29 w28 =>
      F41_j2 i_14 r29 w28 K16 R
    ) else (
      F41_j2 i_14 l_13 w15 K16 R
    )
  ) else (
    st tSlc (a3.add 66) l_13 w15 fun w31 =>
    ex (RdAt T48 a3 w31) fun x32 =>
    st T48 a5 x32 w31 fun w33 =>
    ex (RdAt T48 a5 w33) fun x34 =>
    R (x34, (0 : Int)) w33
  )
def F41 (n_1 : S48) (node_2 : Int) (w : World) (R : (S48 × Int) → World → Prop) : Prop :=
  nw 49 T48 n_1 w fun a3 w4 =>
  nw 49 T48 Z48 w4 fun a5 w6 =>
  ex (fun x => (!(decide (node_2 < (0 : Int)))) = true → (RdAt (tInt .i64) (a3.add 0) w6) x) fun x7 =>
  if ((decide (node_2 < (0 : Int))) || (decide (node_2 ≥ x7))) = true then (
    ex (RdAt T48 a3 w6) fun x8 =>
    st T48 a5 x8 w6 fun w9 =>
    ex (RdAt T48 a5 w9) fun x10 =>
    R (x10, (90 : Int)) w9
  ) else (
    nwS 75 T35 ([] : List S35) w6 fun a11 w12 =>
    lp (fun (s : Slc × Int) w K => F41_l1 node_2 a3 a5 s.1 s.2 w K R) ((⟨some a11, 0, 0⟩ : Slc), (0 : Int)) w12
  )
theorem F41_ok {n_1 : S48} {node_2 : Int} {w : World} {R : (S48 × Int) → World → Prop} (h : F41 n_1 node_2 w R) : cl Try.prog 41 [T48.enc (n_1), .int .i64 (node_2)] (tTup2 T48 (tInt .i64)) w R := by
  unfold F41 at h
  refine calls_start 44 Try.func41 rfl rfl (Nat.le_of_ble_eq_true rfl) ?_
  refine wp_seq ?_
  refine wp_text [0, 1, 2] rfl ?_
  obtain ⟨a3, w4, ha3, hw4, h⟩ := nw_open h
  refine ro_val (d := (some 2)) rfl (.free rfl) rfl (q_box (u := n_1) rfl ok49 rfl ha3 hw4) ?_
  obtain ⟨a5, w6, ha5, hw6, h⟩ := nw_open h
  refine ro_val (d := (some 4)) rfl (.free rfl) rfl (q_alloc (u := Z48) rfl ok49 inf49 ha5 hw6) ?_
  refine ro_val (d := (some 5)) rfl (.free rfl) rfl (q_assign (v := .int .i64 ((0 : Int))) rfl rfl) ?_
  refine ro_nil ?_
  refine wp_seq ?_
  refine wp_seq ?_
  refine wp_text [0, 1, 2, 3, 4, 5, 6, 7] rfl ?_
  refine ro_val (d := (some 8)) rfl (.free rfl) rfl (q_move (v := .int .i64 (node_2)) rfl rfl) ?_
  refine ro_val (d := (some 9)) rfl (.free rfl) rfl (q_lss (a := node_2) (b := (0 : Int)) rfl rfl rfl) ?_
  refine ro_val (d := (some 10)) rfl (.free rfl) rfl (q_move (v := .bool ((decide (node_2 < (0 : Int))))) rfl rfl) ?_
  refine ro_gval (g := (!(decide (node_2 < (0 : Int))))) (d := (some 11)) rfl (.no 2 10 true (decide (node_2 < (0 : Int))) rfl rfl rfl rfl) rfl (fun hg => q_move (v := .int .i64 (node_2)) rfl rfl) ?_
  refine ro_gval (g := (!(decide (node_2 < (0 : Int))))) (d := (some 12)) rfl (.no 2 10 true (decide (node_2 < (0 : Int))) rfl rfl rfl rfl) rfl (fun hg => q_fieldAddr (a := a3) (off := 0) rfl Try.underlying49 rfl rfl ok3 (by decide) rfl) ?_
  obtain ⟨x7, hx7, h⟩ := h
  refine ro_gval (g := (!(decide (node_2 < (0 : Int))))) (d := (some 13)) rfl (.no 2 10 true (decide (node_2 < (0 : Int))) rfl rfl rfl rfl) rfl (fun hg => q_load (T := (tInt .i64)) (u := x7) (a := (a3.add 0)) rfl ok3 (gvb_yes hg) (hx7 hg)) ?_
  refine ro_gval (g := (!(decide (node_2 < (0 : Int))))) (d := (some 14)) rfl (.no 2 10 true (decide (node_2 < (0 : Int))) rfl rfl rfl rfl) rfl (fun hg => q_geq (a := node_2) (b := x7) rfl (gvb_yes hg) (gvb_yes hg)) ?_
  refine ro_val (d := (some 15)) rfl (.free rfl) rfl (q_pickGF (a := (decide (node_2 < (0 : Int)))) (c := (decide (node_2 ≥ x7))) rfl rfl rfl rfl) ?_
  refine ro_nil ?_
  refine wp_if (b := ((decide (node_2 < (0 : Int))) || (decide (node_2 ≥ x7)))) rfl h (fun hb36 h => ?_) (fun hb36 h => ?_)
  · refine wp_seq ?_
    refine wp_text [0, 1, 2] rfl ?_
    obtain ⟨x8, hx8, h⟩ := h
    refine ro_val (d := (some 16)) rfl (.free rfl) rfl (q_load (T := T48) (u := x8) (a := a3) rfl ok49 rfl hx8) ?_
    obtain ⟨w9, hw9, hrw9, h⟩ := st_open h
    refine ro_skip (d := none) rfl (.free rfl) rfl (q_store (T := T48) (u := x8) (a := a5) rfl ok49 rfl rfl hrw9 hw9) ?_
    refine ro_val (d := (some 5)) rfl (.free rfl) rfl (q_assign (v := .int .i64 ((90 : Int))) rfl rfl) ?_
    refine ro_nil ?_
    refine wp_ret ?_
    obtain ⟨x10, hx10, h⟩ := h
    exact ret_ok rfl (.cons (.cell (T := T48) (u := x10) (a := a5) ok49 rfl hx10) (.cons (.tmp (v := .int .i64 ((90 : Int))) rfl) .nil)) ⟨(x10, (90 : Int)), rfl, h⟩
  · refine wp_skip ?_
    refine wp_seq ?_
    refine wp_text [0, 1] rfl ?_
    obtain ⟨a11, w12, ha11, hw12, h⟩ := nwS_open h
    refine ro_val (d := (some 17)) rfl (.free rfl) rfl (q_row0 (T := T35) rfl Try.underlying47 ok75 inf75 ha11 hw12) ?_
    refine ro_val (d := (some 6)) rfl (.free rfl) rfl (q_assign (v := tSlc.enc ((⟨some a11, 0, 0⟩ : Slc))) rfl rfl) ?_
    refine ro_nil ?_
    refine wp_seq ?_
    refine wp_seq ?_
    refine wp_text [0] rfl ?_
    refine ro_val (d := (some 7)) rfl (.free rfl) rfl (q_assign (v := .int .i64 ((0 : Int))) rfl rfl) ?_
    refine ro_nil ?_
    refine wp_block ?_
    refine loop_at (σ := Slc × Int) (fr := fun g (s : Slc × Int) => upd (upd (upd (upd (upd (g) 1 (.int .i64 (node_2))) 2 (.pointer (some a3))) 4 (.pointer (some a5))) 6 (tSlc.enc (s.1))) 7 (.int .i64 (s.2))) (s0 := ((⟨some a11, 0, 0⟩ : Slc), (0 : Int))) (upd_step (upd_step (upd_step (upd_step (upd_step rfl rfl) rfl) rfl) rfl) rfl) h ?_
    rintro ⟨l_13, i_14⟩ g w15 K16 h
    unfold F41_l1 at h
    refine wp_seq ?_
    refine wp_seq ?_
    refine wp_text [0, 1, 2, 3, 4] rfl ?_
    refine ro_val (d := (some 18)) rfl (.free rfl) rfl (q_move (v := .int .i64 (i_14)) rfl rfl) ?_
    refine ro_val (d := (some 19)) rfl (.free rfl) rfl (q_fieldAddr (a := a3) (off := 66) rfl Try.underlying49 rfl rfl ok47 (by decide) rfl) ?_
    obtain ⟨x17, hx17, h⟩ := h
    refine ro_val (d := (some 20)) rfl (.free rfl) rfl (q_load (T := tSlc) (u := x17) (a := (a3.add 66)) rfl ok47 rfl hx17) ?_
    refine ro_val (d := (some 21)) rfl (.free rfl) rfl (q_len (s := x17) rfl Try.underlying47 rfl) ?_
    refine ro_val (d := (some 22)) rfl (.free rfl) rfl (q_lss (a := i_14) (b := (x17.len : Int)) rfl rfl rfl) ?_
    refine ro_nil ?_
    refine wp_if (b := (decide (i_14 < (x17.len : Int)))) rfl h (fun hb35 h => ?_) (fun hb35 h => ?_)
    · refine wp_skip ?_
      refine seq_join (σ := Slc) (J := fun (s : Slc) w => F41_j2 i_14 s w K16 R) (fr := fun g (s : Slc) => upd (upd (upd (upd (upd (g) 1 (.int .i64 (node_2))) 2 (.pointer (some a3))) 4 (.pointer (some a5))) 7 (.int .i64 (i_14))) 6 (tSlc.enc (s))) ?_ ?_
      · rintro l_18 g w19 h
        unfold F41_j2 at h
        refine wp_text [0, 1, 2] rfl ?_
        refine ro_val (d := (some 23)) rfl (.free rfl) rfl (q_move (v := .int .i64 (i_14)) rfl rfl) ?_
        refine ro_val (d := (some 24)) rfl (.free rfl) rfl (q_add (a := i_14) (b := (1 : Int)) rfl rfl rfl) ?_
        refine ro_val (d := (some 7)) rfl (.free rfl) rfl (q_assign (v := .int .i64 ((IntKind.i64.wrap (i_14 + (1 : Int))))) rfl rfl) ?_
        refine ro_nil ?_
        exact ⟨(l_18, (IntKind.i64.wrap (i_14 + (1 : Int)))), _, arr (upd_step (upd_step (upd_step (upd_step (upd_step rfl rfl) rfl) rfl) rfl) rfl), h⟩
      · refine wp_block ?_
        refine wp_seq ?_
        refine wp_text [0, 1, 2, 3, 4, 5, 6, 7] rfl ?_
        refine ro_val (d := (some 25)) rfl (.free rfl) rfl (q_fieldAddr (a := a3) (off := 66) rfl Try.underlying49 rfl rfl ok47 (by decide) rfl) ?_
        obtain ⟨x20, hx20, h⟩ := h
        refine ro_val (d := (some 26)) rfl (.free rfl) rfl (q_load (T := tSlc) (u := x20) (a := (a3.add 66)) rfl ok47 rfl hx20) ?_
        refine ro_val (d := (some 27)) rfl (.free rfl) rfl (q_move (v := .int .i64 (i_14)) rfl rfl) ?_
        obtain ⟨a21, ha21, h⟩ := h
        refine ro_val (d := (some 28)) rfl (.free rfl) rfl (q_indexAddr (s := x20) (i := i_14) rfl Try.underlying47 ok75 rfl rfl ha21) ?_
        refine ro_val (d := (some 29)) rfl (.free rfl) rfl (q_fieldAddr (a := a21) (off := 2) rfl Try.underlying75 rfl rfl ok3 (by decide) rfl) ?_
        obtain ⟨x22, hx22, h⟩ := h
        refine ro_val (d := (some 30)) rfl (.free rfl) rfl (q_load (T := (tInt .i64)) (u := x22) (a := (a21.add 2)) rfl ok3 rfl hx22) ?_
        refine ro_val (d := (some 31)) rfl (.free rfl) rfl (q_move (v := .int .i64 (node_2)) rfl rfl) ?_
        refine ro_val (d := (some 32)) rfl (.free rfl) rfl (q_neq (a := x22) (b := node_2) rfl rfl rfl) ?_
        refine ro_nil ?_
        refine wp_if (b := (x22 != node_2)) rfl h (fun hb30 h => ?_) (fun hb30 h => ?_)
        · refine wp_text [0, 1, 2, 3, 4, 5, 6, 7, 8] rfl ?_
          refine ro_val (d := (some 33)) rfl (.free rfl) rfl (q_move (v := tSlc.enc (l_13)) rfl rfl) ?_
          refine ro_val (d := (some 34)) rfl (.free rfl) rfl (q_fieldAddr (a := a3) (off := 66) rfl Try.underlying49 rfl rfl ok47 (by decide) rfl) ?_
          obtain ⟨x23, hx23, h⟩ := h
          refine ro_val (d := (some 35)) rfl (.free rfl) rfl (q_load (T := tSlc) (u := x23) (a := (a3.add 66)) rfl ok47 rfl hx23) ?_
          refine ro_val (d := (some 36)) rfl (.free rfl) rfl (q_move (v := .int .i64 (i_14)) rfl rfl) ?_
          obtain ⟨a24, ha24, h⟩ := h
          refine ro_val (d := (some 37)) rfl (.free rfl) rfl (q_indexAddr (s := x23) (i := i_14) rfl Try.underlying47 ok75 rfl rfl ha24) ?_
          obtain ⟨x25, hx25, h⟩ := h
          refine ro_val (d := (some 38)) rfl (.free rfl) rfl (q_load (T := T35) (u := x25) (a := a24) rfl ok75 rfl hx25) ?_
          obtain ⟨a26, w27, ha26, hw27, h⟩ := apl_open h
          refine ro_val (d := (some 39)) rfl (.free rfl) rfl (q_rowOf (T := T35) (xs := [x25]) rfl Try.underlying47 ok75 inf75 rfl (by decide) (by decide) rfl ha26 hw27) ?_
          refine ro_wp rfl (.free rfl) (wp_append (d := (some 40)) (T := T35) rfl rfl Try.underlying47 ⟨_, Try.underlying47⟩ ok75 inf75 rfl rfl (Nat.lt_of_lt_of_le Nat.zero_lt_one (Nat.le_of_ble_eq_true rfl)) rfl rfl h ?_)
          intro r29 w28 h
          refine ro_val (d := (some 6)) rfl (.free rfl) rfl (q_assign (v := tSlc.enc (r29)) rfl rfl) ?_
          refine ro_nil ?_
          exact ⟨(r29), _, arr (upd_step (upd_step (upd_step (upd_step (upd_step rfl rfl) rfl) rfl) rfl) rfl), h⟩
        · refine wp_skip ?_
          exact ⟨(l_13), _, arr (upd_step (upd_step (upd_step (upd_step (upd_step rfl rfl) rfl) rfl) rfl) rfl), h⟩
    · refine wp_exit ?_
      refine wp_seq ?_
      refine wp_text [0, 1, 2] rfl ?_
      refine ro_val (d := (some 41)) rfl (.free rfl) rfl (q_move (v := tSlc.enc (l_13)) rfl rfl) ?_
      refine ro_val (d := (some 42)) rfl (.free rfl) rfl (q_fieldAddr (a := a3) (off := 66) rfl Try.underlying49 rfl rfl ok47 (by decide) rfl) ?_
      obtain ⟨w31, hw31, hrw31, h⟩ := st_open h
      refine ro_skip (d := none) rfl (.free rfl) rfl (q_store (T := tSlc) (u := l_13) (a := (a3.add 66)) rfl ok47 rfl rfl hrw31 hw31) ?_
      refine ro_nil ?_
      refine wp_seq ?_
      refine wp_text [0, 1, 2] rfl ?_
      obtain ⟨x32, hx32, h⟩ := h
      refine ro_val (d := (some 43)) rfl (.free rfl) rfl (q_load (T := T48) (u := x32) (a := a3) rfl ok49 rfl hx32) ?_
      obtain ⟨w33, hw33, hrw33, h⟩ := st_open h
      refine ro_skip (d := none) rfl (.free rfl) rfl (q_store (T := T48) (u := x32) (a := a5) rfl ok49 rfl rfl hrw33 hw33) ?_
      refine ro_val (d := (some 5)) rfl (.free rfl) rfl (q_assign (v := .int .i64 ((0 : Int))) rfl rfl) ?_
      refine ro_nil ?_
      refine wp_ret ?_
      obtain ⟨x34, hx34, h⟩ := h
      exact ret_ok rfl (.cons (.cell (T := T48) (u := x34) (a := a5) ok49 rfl hx34) (.cons (.tmp (v := .int .i64 ((0 : Int))) rfl) .nil)) ⟨(x34, (0 : Int)), rfl, h⟩

-- (*moiety/post.Net[int]).is
def F42 (n_1 : (Option Addr)) (node_2 : Int) (w : World) (R : Bool → World → Prop) : Prop :=
  ex (fun x => (decide (node_2 ≥ (0 : Int))) = true → (NC n_1) x) fun a3 =>
  ex (fun x => (decide (node_2 ≥ (0 : Int))) = true → (RdAt (tInt .i64) (a3.add 0) w) x) fun x4 =>
  R ((decide (node_2 ≥ (0 : Int))) && (decide (node_2 < x4))) w
theorem F42_ok {n_1 : (Option Addr)} {node_2 : Int} {w : World} {R : Bool → World → Prop} (h : F42 n_1 node_2 w R) : cl Try.prog 42 [.pointer (n_1), .int .i64 (node_2)] tBool w R := by
  unfold F42 at h
  refine calls_start 15 Try.func42 rfl rfl (Nat.le_of_ble_eq_true rfl) ?_
  refine wp_seq ?_
  refine wp_text [0] rfl ?_
  refine ro_val (d := (some 4)) rfl (.free rfl) rfl (q_assign (v := .bool (false)) rfl rfl) ?_
  refine ro_nil ?_
  refine wp_seq ?_
  refine wp_text [0, 1, 2, 3, 4, 5, 6, 7, 8, 9, 10] rfl ?_
  refine ro_val (d := (some 5)) rfl (.free rfl) rfl (q_move (v := .int .i64 (node_2)) rfl rfl) ?_
  refine ro_val (d := (some 6)) rfl (.free rfl) rfl (q_geq (a := node_2) (b := (0 : Int)) rfl rfl rfl) ?_
  refine ro_val (d := (some 7)) rfl (.free rfl) rfl (q_move (v := .bool ((decide (node_2 ≥ (0 : Int))))) rfl rfl) ?_
  refine ro_gval (g := (decide (node_2 ≥ (0 : Int)))) (d := (some 8)) rfl (.yes 2 7 true (decide (node_2 ≥ (0 : Int))) rfl rfl rfl rfl) rfl (fun hg => q_move (v := .int .i64 (node_2)) rfl rfl) ?_
  refine ro_gval (g := (decide (node_2 ≥ (0 : Int)))) (d := (some 9)) rfl (.yes 2 7 true (decide (node_2 ≥ (0 : Int))) rfl rfl rfl rfl) rfl (fun hg => q_move (v := .pointer (n_1)) rfl rfl) ?_
  obtain ⟨a3, ha3, h⟩ := h
  refine ro_gval (g := (decide (node_2 ≥ (0 : Int)))) (d := (some 10)) rfl (.yes 2 7 true (decide (node_2 ≥ (0 : Int))) rfl rfl rfl rfl) rfl (fun hg => q_nilCheck (a := a3) rfl ((gvb_yes hg).trans (congrArg Value.pointer (ha3 hg)))) ?_
  refine ro_gval (g := (decide (node_2 ≥ (0 : Int)))) (d := (some 11)) rfl (.yes 2 7 true (decide (node_2 ≥ (0 : Int))) rfl rfl rfl rfl) rfl (fun hg => q_fieldAddr (a := a3) (off := 0) rfl Try.underlying82 rfl rfl ok3 (by decide) (gvb_yes hg)) ?_
  obtain ⟨x4, hx4, h⟩ := h
  refine ro_gval (g := (decide (node_2 ≥ (0 : Int)))) (d := (some 12)) rfl (.yes 2 7 true (decide (node_2 ≥ (0 : Int))) rfl rfl rfl rfl) rfl (fun hg => q_load (T := (tInt .i64)) (u := x4) (a := (a3.add 0)) rfl ok3 (gvb_yes hg) (hx4 hg)) ?_
  refine ro_gval (g := (decide (node_2 ≥ (0 : Int)))) (d := (some 13)) rfl (.yes 2 7 true (decide (node_2 ≥ (0 : Int))) rfl rfl rfl rfl) rfl (fun hg => q_lss (a := node_2) (b := x4) rfl (gvb_yes hg) (gvb_yes hg)) ?_
  refine ro_val (d := (some 14)) rfl (.free rfl) rfl (q_pickGT (a := (decide (node_2 ≥ (0 : Int)))) (b := (decide (node_2 < x4))) rfl rfl rfl rfl) ?_
  refine ro_val (d := (some 4)) rfl (.free rfl) rfl (q_assign (v := .bool (((decide (node_2 ≥ (0 : Int))) && (decide (node_2 < x4))))) rfl rfl) ?_
  refine ro_nil ?_
  refine wp_ret ?_
  exact ret_ok rfl (.cons (.tmp (v := .bool (((decide (node_2 ≥ (0 : Int))) && (decide (node_2 < x4))))) rfl) .nil) ⟨((decide (node_2 ≥ (0 : Int))) && (decide (node_2 < x4))), rfl, h⟩

-- (*moiety/post.Net[int]).put
def F43 (n_1 : (Option Addr)) (x_2 : S60) (w : World) (R : Int → World → Prop) : Prop :=
  nw 61 T60 x_2 w fun a3 w4 =>
  ex (NC n_1) fun a5 =>
  ex (RdAt tSlc (a5.add 2) w4) fun x6 =>
  if (decide ((x6.len : Int) ≥ (1000 : Int))) = true then (
    R (91 : Int) w4
  ) else (
    dr w4 fun w7 =>
    ex (RdAt tSlc (a5.add 2) w7) fun x8 =>
    ex (RdAt T60 a3 w7) fun x9 =>
    apl 61 T60 4 32 x8 [x9] w7 fun r13 w12 =>
    kp ((RdAt T60 a3 w12) x9) <|
    st tSlc (a5.add 2) r13 w12 fun w15 =>
    R (0 : Int) w15
  )
theorem F43_ok {n_1 : (Option Addr)} {x_2 : S60} {w : World} {R : Int → World → Prop} (h : F43 n_1 x_2 w R) : cl Try.prog 43 [.pointer (n_1), T60.enc (x_2)] (tInt .i64) w R := by
  unfold F43 at h
  refine calls_start 21 Try.func43 rfl rfl (Nat.le_of_ble_eq_true rfl) ?_
  refine wp_seq ?_
  refine wp_text [0, 1] rfl ?_
  obtain ⟨a3, w4, ha3, hw4, h⟩ := nw_open h
  refine ro_val (d := (some 3)) rfl (.free rfl) rfl (q_box (u := x_2) rfl ok61 rfl ha3 hw4) ?_
  refine ro_val (d := (some 4)) rfl (.free rfl) rfl (q_assign (v := .int .i64 ((0 : Int))) rfl rfl) ?_
  refine ro_nil ?_
  refine wp_seq ?_
  refine wp_seq ?_
  refine wp_text [0, 1, 2, 3, 4, 5] rfl ?_
  refine ro_val (d := (some 5)) rfl (.free rfl) rfl (q_move (v := .pointer (n_1)) rfl rfl) ?_
  obtain ⟨a5, ha5, h⟩ := h
  refine ro_val (d := (some 6)) rfl (.free rfl) rfl (q_nilCheck (a := a5) rfl (congrArg Value.pointer ha5)) ?_
  refine ro_val (d := (some 7)) rfl (.free rfl) rfl (q_fieldAddr (a := a5) (off := 2) rfl Try.underlying82 rfl rfl ok58 (by decide) rfl) ?_
  obtain ⟨x6, hx6, h⟩ := h
  refine ro_val (d := (some 8)) rfl (.free rfl) rfl (q_load (T := tSlc) (u := x6) (a := (a5.add 2)) rfl ok58 rfl hx6) ?_
  refine ro_val (d := (some 9)) rfl (.free rfl) rfl (q_len (s := x6) rfl Try.underlying58 rfl) ?_
  refine ro_val (d := (some 10)) rfl (.free rfl) rfl (q_geq (a := (x6.len : Int)) (b := (1000 : Int)) rfl rfl rfl) ?_
  refine ro_nil ?_
  refine wp_if (b := (decide ((x6.len : Int) ≥ (1000 : Int)))) rfl h (fun hb16 h => ?_) (fun hb16 h => ?_)
  · refine wp_seq ?_
    refine wp_text [0] rfl ?_
    refine ro_val (d := (some 4)) rfl (.free rfl) rfl (q_assign (v := .int .i64 ((91 : Int))) rfl rfl) ?_
    refine ro_nil ?_
    refine wp_ret ?_
    exact ret_ok rfl (.cons (.tmp (v := .int .i64 ((91 : Int))) rfl) .nil) ⟨(91 : Int), rfl, h⟩
  · refine wp_skip ?_
    refine wp_seq ?_
    obtain ⟨w7, hw7, h⟩ := dr_open h
    refine wp_drawn 11 mixed rfl (by kernel_rfl) (by intro c a d v w h; cases d <;> exact h) hw7 (fun hD => ?_)
    refine rd_pure (i := 0) (d := (some 11)) hD (by kernel_rfl) (by kernel_rfl) rfl (.free rfl) rfl (fun _ => q_move (v := .pointer (n_1)) rfl rfl) ?_
    refine rd_pure (i := 1) (d := (some 12)) hD (by kernel_rfl) (by kernel_rfl) rfl (.free rfl) rfl (fun _ => q_move (v := .pointer (n_1)) rfl rfl) ?_
    refine rd_pure (i := 2) (d := (some 13)) hD (by kernel_rfl) (by kernel_rfl) rfl (.free rfl) rfl (fun _ => q_nilCheck (a := a5) rfl (congrArg Value.pointer ha5)) ?_
    refine rd_pure (i := 3) (d := (some 14)) hD (by kernel_rfl) (by kernel_rfl) rfl (.free rfl) rfl (fun _ => q_fieldAddr (a := a5) (off := 2) rfl Try.underlying82 rfl rfl ok58 (by decide) rfl) ?_
    obtain ⟨x8, hx8, h⟩ := h
    refine rd_read (i := 4) (d := (some 15)) (fun W => (RdAt tSlc (a5.add 2) W) x8) hD (by kernel_rfl) (by kernel_rfl) rfl (.free rfl) rfl (fun W hr => q_load (T := tSlc) (u := x8) (a := (a5.add 2)) rfl ok58 rfl hr) hx8 ?_
    obtain ⟨x9, hx9, h⟩ := h
    refine rd_read (i := 5) (d := (some 16)) (fun W => (RdAt T60 a3 W) x9) hD (by kernel_rfl) (by kernel_rfl) rfl (.free rfl) rfl (fun W hr => q_load (T := T60) (u := x9) (a := a3) rfl ok61 rfl hr) hx9 ?_
    refine rd_one (i := 6) (by kernel_rfl) ?_
    obtain ⟨a10, w11, ha10, hw11, h⟩ := apl_open h
    refine po_val (d := (some 17)) rfl (.free rfl) rfl (q_rowOf (T := T60) (xs := [x9]) rfl Try.underlying58 ok61 inf61 rfl (by decide) (by decide) rfl ha10 hw11) ⟨(hk_wait (by kernel_rfl) (hk_keep (fun h => keep_RdAt hw11 h) hk_nil)), ?_⟩
    refine rd_one (i := 7) (by kernel_rfl) ?_
    refine po_wp rfl (.free rfl) (wp_append (d := (some 18)) (T := T60) rfl rfl Try.underlying58 ⟨_, Try.underlying58⟩ ok61 inf61 rfl rfl (Nat.lt_of_lt_of_le Nat.zero_lt_one (Nat.le_of_ble_eq_true rfl)) rfl rfl h ?_)
    intro r13 w12 h
    obtain ⟨hk14, h⟩ := h
    refine ⟨(hk_keep (fun _ => hk14) (hk_wait (by kernel_rfl) hk_nil)), ?_⟩
    refine rd_pure (i := 8) (d := (some 19)) hD (by kernel_rfl) (by kernel_rfl) rfl (.free rfl) rfl (fun _ => q_nilCheck (a := a5) rfl (congrArg Value.pointer ha5)) ?_
    refine rd_pure (i := 9) (d := (some 20)) hD (by kernel_rfl) (by kernel_rfl) rfl (.free rfl) rfl (fun _ => q_fieldAddr (a := a5) (off := 2) rfl Try.underlying82 rfl rfl ok58 (by decide) rfl) ?_
    refine rd_one (i := 10) (by kernel_rfl) ?_
    obtain ⟨w15, hw15, hrw15, h⟩ := st_open h
    refine po_skip (d := none) rfl (.free rfl) rfl (q_store (T := tSlc) (u := r13) (a := (a5.add 2)) rfl ok58 rfl rfl hrw15 hw15) ⟨(hk_wait (by kernel_rfl) (hk_wait (by kernel_rfl) hk_nil)), ?_⟩
    refine rd_nil (by kernel_rfl) ?_
    refine wp_seq ?_
    refine wp_text [0] rfl ?_
    refine ro_val (d := (some 4)) rfl (.free rfl) rfl (q_assign (v := .int .i64 ((0 : Int))) rfl rfl) ?_
    refine ro_nil ?_
    refine wp_ret ?_
    exact ret_ok rfl (.cons (.tmp (v := .int .i64 ((0 : Int))) rfl) .nil) ⟨(0 : Int), rfl, h⟩

-- (*moiety/post.Net[int]).at
def F44 (n_1 : (Option Addr)) (i_2 : Int) (w : World) (R : (S60 × Int) → World → Prop) : Prop :=
  nw 61 T60 Z60 w fun a3 w4 =>
  ex (fun x => (!(decide (i_2 < (0 : Int)))) = true → (NC n_1) x) fun a5 =>
  ex (fun x => (!(decide (i_2 < (0 : Int)))) = true → (RdAt tSlc (a5.add 2) w4) x) fun x6 =>
  if ((decide (i_2 < (0 : Int))) || (decide (i_2 ≥ (x6.len : Int)))) = true then (
    st T60 a3 (⟨(0 : Int), (0 : Int), (0 : Int), (0 : Int)⟩ : S60) w4 fun w7 =>
    ex (RdAt T60 a3 w7) fun x8 =>
    R (x8, (92 : Int)) w7
  ) else (
    ex (NC n_1) fun a9 =>
    ex (RdAt tSlc (a9.add 2) w4) fun x10 =>
    ex (IxA x10 4 i_2) fun a11 =>
    ex (RdAt T60 a11 w4) fun x12 =>
    st T60 a3 x12 w4 fun w13 =>
    ex (RdAt T60 a3 w13) fun x14 =>
    R (x14, (0 : Int)) w13
  )
theorem F44_ok {n_1 : (Option Addr)} {i_2 : Int} {w : World} {R : (S60 × Int) → World → Prop} (h : F44 n_1 i_2 w R) : cl Try.prog 44 [.pointer (n_1), .int .i64 (i_2)] (tTup2 T60 (tInt .i64)) w R := by
  unfold F44 at h
  refine calls_start 25 Try.func44 rfl rfl (Nat.le_of_ble_eq_true rfl) ?_
  refine wp_seq ?_
  refine wp_text [0, 1] rfl ?_
  obtain ⟨a3, w4, ha3, hw4, h⟩ := nw_open h
  refine ro_val (d := (some 4)) rfl (.free rfl) rfl (q_alloc (u := Z60) rfl ok61 inf61 ha3 hw4) ?_
  refine ro_val (d := (some 5)) rfl (.free rfl) rfl (q_assign (v := .int .i64 ((0 : Int))) rfl rfl) ?_
  refine ro_nil ?_
  refine wp_seq ?_
  refine wp_seq ?_
  refine wp_text [0, 1, 2, 3, 4, 5, 6, 7, 8, 9, 10] rfl ?_
  refine ro_val (d := (some 6)) rfl (.free rfl) rfl (q_move (v := .int .i64 (i_2)) rfl rfl) ?_
  refine ro_val (d := (some 7)) rfl (.free rfl) rfl (q_lss (a := i_2) (b := (0 : Int)) rfl rfl rfl) ?_
  refine ro_val (d := (some 8)) rfl (.free rfl) rfl (q_move (v := .bool ((decide (i_2 < (0 : Int))))) rfl rfl) ?_
  refine ro_gval (g := (!(decide (i_2 < (0 : Int))))) (d := (some 9)) rfl (.no 2 8 true (decide (i_2 < (0 : Int))) rfl rfl rfl rfl) rfl (fun hg => q_move (v := .int .i64 (i_2)) rfl rfl) ?_
  refine ro_gval (g := (!(decide (i_2 < (0 : Int))))) (d := (some 10)) rfl (.no 2 8 true (decide (i_2 < (0 : Int))) rfl rfl rfl rfl) rfl (fun hg => q_move (v := .pointer (n_1)) rfl rfl) ?_
  obtain ⟨a5, ha5, h⟩ := h
  refine ro_gval (g := (!(decide (i_2 < (0 : Int))))) (d := (some 11)) rfl (.no 2 8 true (decide (i_2 < (0 : Int))) rfl rfl rfl rfl) rfl (fun hg => q_nilCheck (a := a5) rfl ((gvb_yes hg).trans (congrArg Value.pointer (ha5 hg)))) ?_
  refine ro_gval (g := (!(decide (i_2 < (0 : Int))))) (d := (some 12)) rfl (.no 2 8 true (decide (i_2 < (0 : Int))) rfl rfl rfl rfl) rfl (fun hg => q_fieldAddr (a := a5) (off := 2) rfl Try.underlying82 rfl rfl ok58 (by decide) (gvb_yes hg)) ?_
  obtain ⟨x6, hx6, h⟩ := h
  refine ro_gval (g := (!(decide (i_2 < (0 : Int))))) (d := (some 13)) rfl (.no 2 8 true (decide (i_2 < (0 : Int))) rfl rfl rfl rfl) rfl (fun hg => q_load (T := tSlc) (u := x6) (a := (a5.add 2)) rfl ok58 (gvb_yes hg) (hx6 hg)) ?_
  refine ro_gval (g := (!(decide (i_2 < (0 : Int))))) (d := (some 14)) rfl (.no 2 8 true (decide (i_2 < (0 : Int))) rfl rfl rfl rfl) rfl (fun hg => q_len (s := x6) rfl Try.underlying58 (gvb_yes hg)) ?_
  refine ro_gval (g := (!(decide (i_2 < (0 : Int))))) (d := (some 15)) rfl (.no 2 8 true (decide (i_2 < (0 : Int))) rfl rfl rfl rfl) rfl (fun hg => q_geq (a := i_2) (b := (x6.len : Int)) rfl (gvb_yes hg) (gvb_yes hg)) ?_
  refine ro_val (d := (some 16)) rfl (.free rfl) rfl (q_pickGF (a := (decide (i_2 < (0 : Int)))) (c := (decide (i_2 ≥ (x6.len : Int)))) rfl rfl rfl rfl) ?_
  refine ro_nil ?_
  refine wp_if (b := ((decide (i_2 < (0 : Int))) || (decide (i_2 ≥ (x6.len : Int))))) rfl h (fun hb15 h => ?_) (fun hb15 h => ?_)
  · refine wp_seq ?_
    refine wp_text [0, 1, 2] rfl ?_
    refine ro_val (d := (some 17)) rfl (.free rfl) rfl (q_build61_  rfl ) ?_
    obtain ⟨w7, hw7, hrw7, h⟩ := st_open h
    refine ro_skip (d := none) rfl (.free rfl) rfl (q_store (T := T60) (u := (⟨(0 : Int), (0 : Int), (0 : Int), (0 : Int)⟩ : S60)) (a := a3) rfl ok61 rfl rfl hrw7 hw7) ?_
    refine ro_val (d := (some 5)) rfl (.free rfl) rfl (q_assign (v := .int .i64 ((92 : Int))) rfl rfl) ?_
    refine ro_nil ?_
    refine wp_ret ?_
    obtain ⟨x8, hx8, h⟩ := h
    exact ret_ok rfl (.cons (.cell (T := T60) (u := x8) (a := a3) ok61 rfl hx8) (.cons (.tmp (v := .int .i64 ((92 : Int))) rfl) .nil)) ⟨(x8, (92 : Int)), rfl, h⟩
  · refine wp_skip ?_
    refine wp_seq ?_
    refine wp_text [0, 1, 2, 3, 4, 5, 6, 7, 8] rfl ?_
    refine ro_val (d := (some 18)) rfl (.free rfl) rfl (q_move (v := .pointer (n_1)) rfl rfl) ?_
    obtain ⟨a9, ha9, h⟩ := h
    refine ro_val (d := (some 19)) rfl (.free rfl) rfl (q_nilCheck (a := a9) rfl (congrArg Value.pointer ha9)) ?_
    refine ro_val (d := (some 20)) rfl (.free rfl) rfl (q_fieldAddr (a := a9) (off := 2) rfl Try.underlying82 rfl rfl ok58 (by decide) rfl) ?_
    obtain ⟨x10, hx10, h⟩ := h
    refine ro_val (d := (some 21)) rfl (.free rfl) rfl (q_load (T := tSlc) (u := x10) (a := (a9.add 2)) rfl ok58 rfl hx10) ?_
    refine ro_val (d := (some 22)) rfl (.free rfl) rfl (q_move (v := .int .i64 (i_2)) rfl rfl) ?_
    obtain ⟨a11, ha11, h⟩ := h
    refine ro_val (d := (some 23)) rfl (.free rfl) rfl (q_indexAddr (s := x10) (i := i_2) rfl Try.underlying58 ok61 rfl rfl ha11) ?_
    obtain ⟨x12, hx12, h⟩ := h
    refine ro_val (d := (some 24)) rfl (.free rfl) rfl (q_load (T := T60) (u := x12) (a := a11) rfl ok61 rfl hx12) ?_
    obtain ⟨w13, hw13, hrw13, h⟩ := st_open h
    refine ro_skip (d := none) rfl (.free rfl) rfl (q_store (T := T60) (u := x12) (a := a3) rfl ok61 rfl rfl hrw13 hw13) ?_
    refine ro_val (d := (some 5)) rfl (.free rfl) rfl (q_assign (v := .int .i64 ((0 : Int))) rfl rfl) ?_
    refine ro_nil ?_
    refine wp_ret ?_
    obtain ⟨x14, hx14, h⟩ := h
    exact ret_ok rfl (.cons (.cell (T := T60) (u := x14) (a := a3) ok61 rfl hx14) (.cons (.tmp (v := .int .i64 ((0 : Int))) rfl) .nil)) ⟨(x14, (0 : Int)), rfl, h⟩

-- slices.Delete[[]moiety/post.Letter[int],moiety/post.Letter[int]]
def F45 (s_1 : Slc) (i_2 : Int) (j_3 : Int) (w : World) (R : Slc → World → Prop) : Prop :=
  ex (Sub s_1 4 i_2 j_3 (s_1.len : Int)) fun s4 =>
  if (i_2 == j_3) = true then (
    R s_1 w
  ) else (
    dr w fun w5 =>
    ex (Sub s_1 4 0 i_2 ((s_1).cap : Int)) fun s6 =>
    ex (Sub s_1 4 j_3 ((s_1).len : Int) ((s_1).cap : Int)) fun s7 =>
    apd 61 T60 4 32 s6 s7 w5 fun r9 w8 =>
    ex (Sub r9 4 (r9.len : Int) (s_1.len : Int) ((r9).cap : Int)) fun s10 =>
    clrS T60 4 Z60 s10 w8 fun w11 =>
    R r9 w11
  )
theorem F45_ok {s_1 : Slc} {i_2 : Int} {j_3 : Int} {w : World} {R : Slc → World → Prop} (h : F45 s_1 i_2 j_3 w R) : cl Try.prog 45 [tSlc.enc (s_1), .int .i64 (i_2), .int .i64 (j_3)] tSlc w R := by
  unfold F45 at h
  refine calls_start 33 Try.func45 rfl rfl (Nat.le_of_ble_eq_true rfl) ?_
  refine wp_seq ?_
  refine wp_text [0] rfl ?_
  refine ro_val (d := (some 6)) rfl (.free rfl) rfl (q_assign (v := tSlc.enc ((⟨none, 0, 0⟩ : Slc))) rfl rfl) ?_
  refine ro_nil ?_
  refine wp_seq ?_
  refine wp_text [0, 1, 2, 3, 4, 5] rfl ?_
  refine ro_val (d := (some 8)) rfl (.free rfl) rfl (q_move (v := tSlc.enc (s_1)) rfl rfl) ?_
  refine ro_val (d := (some 9)) rfl (.free rfl) rfl (q_move (v := .int .i64 (i_2)) rfl rfl) ?_
  refine ro_val (d := (some 10)) rfl (.free rfl) rfl (q_move (v := .int .i64 (j_3)) rfl rfl) ?_
  refine ro_val (d := (some 11)) rfl (.free rfl) rfl (q_move (v := tSlc.enc (s_1)) rfl rfl) ?_
  refine ro_val (d := (some 12)) rfl (.free rfl) rfl (q_len (s := s_1) rfl Try.underlying58 rfl) ?_
  obtain ⟨s4, hs4, h⟩ := h
  refine ro_val (d := (some 13)) rfl (.free rfl) rfl (q_sliceLHM (s := s_1) (l := i_2) (h := j_3) (m := (s_1.len : Int)) rfl Try.underlying58 ok61 rfl rfl rfl rfl hs4) ?_
  refine ro_nil ?_
  refine wp_seq ?_
  refine wp_seq ?_
  refine wp_text [0, 1, 2] rfl ?_
  refine ro_val (d := (some 14)) rfl (.free rfl) rfl (q_move (v := .int .i64 (i_2)) rfl rfl) ?_
  refine ro_val (d := (some 15)) rfl (.free rfl) rfl (q_move (v := .int .i64 (j_3)) rfl rfl) ?_
  refine ro_val (d := (some 16)) rfl (.free rfl) rfl (q_eql (a := i_2) (b := j_3) rfl rfl rfl) ?_
  refine ro_nil ?_
  refine wp_if (b := (i_2 == j_3)) rfl h (fun hb12 h => ?_) (fun hb12 h => ?_)
  · refine wp_seq ?_
    refine wp_text [0, 1] rfl ?_
    refine ro_val (d := (some 17)) rfl (.free rfl) rfl (q_move (v := tSlc.enc (s_1)) rfl rfl) ?_
    refine ro_val (d := (some 6)) rfl (.free rfl) rfl (q_assign (v := tSlc.enc (s_1)) rfl rfl) ?_
    refine ro_nil ?_
    refine wp_ret ?_
    exact ret_ok rfl (.cons (.tmp (v := tSlc.enc (s_1)) rfl) .nil) ⟨s_1, rfl, h⟩
  · refine wp_skip ?_
    refine wp_seq ?_
    refine wp_text [0, 1, 2] rfl ?_
    refine ro_val (d := (some 18)) rfl (.free rfl) rfl (q_move (v := tSlc.enc (s_1)) rfl rfl) ?_
    refine ro_val (d := (some 19)) rfl (.free rfl) rfl (q_len (s := s_1) rfl Try.underlying58 rfl) ?_
    refine ro_val (d := (some 7)) rfl (.free rfl) rfl (q_assign (v := .int .i64 ((s_1.len : Int))) rfl rfl) ?_
    refine ro_nil ?_
    refine wp_seq ?_
    obtain ⟨w5, hw5, h⟩ := dr_open h
    refine wp_drawn 8 mixed rfl (by kernel_rfl) (by intro c a d v w h; cases d <;> exact h) hw5 (fun hD => ?_)
    refine rd_pure (i := 0) (d := (some 20)) hD (by kernel_rfl) (by kernel_rfl) rfl (.free rfl) rfl (fun _ => q_move (v := tSlc.enc (s_1)) rfl rfl) ?_
    refine rd_pure (i := 1) (d := (some 21)) hD (by kernel_rfl) (by kernel_rfl) rfl (.free rfl) rfl (fun _ => q_move (v := .int .i64 (i_2)) rfl rfl) ?_
    obtain ⟨s6, hs6, h⟩ := h
    refine rd_pure (i := 2) (d := (some 22)) hD (by kernel_rfl) (by kernel_rfl) rfl (.free rfl) rfl (fun _ => q_sliceH (s := s_1) (h := i_2) rfl Try.underlying58 ok61 rfl rfl hs6) ?_
    refine rd_pure (i := 3) (d := (some 23)) hD (by kernel_rfl) (by kernel_rfl) rfl (.free rfl) rfl (fun _ => q_move (v := tSlc.enc (s_1)) rfl rfl) ?_
    refine rd_pure (i := 4) (d := (some 24)) hD (by kernel_rfl) (by kernel_rfl) rfl (.free rfl) rfl (fun _ => q_move (v := .int .i64 (j_3)) rfl rfl) ?_
    obtain ⟨s7, hs7, h⟩ := h
    refine rd_pure (i := 5) (d := (some 25)) hD (by kernel_rfl) (by kernel_rfl) rfl (.free rfl) rfl (fun _ => q_sliceL (s := s_1) (l := j_3) rfl Try.underlying58 ok61 rfl rfl hs7) ?_
    refine rd_one (i := 6) (by kernel_rfl) ?_
    refine po_wp rfl (.free rfl) (wp_append (d := (some 26)) (T := T60) rfl rfl Try.underlying58 ⟨_, Try.underlying58⟩ ok61 inf61 rfl rfl (Nat.lt_of_lt_of_le Nat.zero_lt_one (Nat.le_of_ble_eq_true rfl)) rfl rfl h ?_)
    intro r9 w8 h
    refine ⟨hk_nil, ?_⟩
    refine rd_pure (i := 7) (d := (some 0)) hD (by kernel_rfl) (by kernel_rfl) rfl (.free rfl) rfl (fun _ => q_assign (v := tSlc.enc (r9)) rfl rfl) ?_
    refine rd_nil (by kernel_rfl) ?_
    refine wp_seq ?_
    refine wp_text [0, 1, 2, 3, 4, 5] rfl ?_
    refine ro_val (d := (some 27)) rfl (.free rfl) rfl (q_move (v := tSlc.enc (r9)) rfl rfl) ?_
    refine ro_val (d := (some 28)) rfl (.free rfl) rfl (q_move (v := tSlc.enc (r9)) rfl rfl) ?_
    refine ro_val (d := (some 29)) rfl (.free rfl) rfl (q_len (s := r9) rfl Try.underlying58 rfl) ?_
    refine ro_val (d := (some 30)) rfl (.free rfl) rfl (q_move (v := .int .i64 ((s_1.len : Int))) rfl rfl) ?_
    obtain ⟨s10, hs10, h⟩ := h
    refine ro_val (d := (some 31)) rfl (.free rfl) rfl (q_sliceLH (s := r9) (l := (r9.len : Int)) (h := (s_1.len : Int)) rfl Try.underlying58 ok61 rfl rfl rfl hs10) ?_
    refine ro_wp rfl (.free rfl) (wp_clrS (T := T60) (s := s10) (z := Z60) (d := none) rfl rfl Try.underlying58 ok61 inf61 rfl h ?_)
    intro w11 h
    refine ro_nil ?_
    refine wp_seq ?_
    refine wp_text [0, 1] rfl ?_
    refine ro_val (d := (some 32)) rfl (.free rfl) rfl (q_move (v := tSlc.enc (r9)) rfl rfl) ?_
    refine ro_val (d := (some 6)) rfl (.free rfl) rfl (q_assign (v := tSlc.enc (r9)) rfl rfl) ?_
    refine ro_nil ?_
    refine wp_ret ?_
    exact ret_ok rfl (.cons (.tmp (v := tSlc.enc (r9)) rfl) .nil) ⟨r9, rfl, h⟩

-- slices.Clone[[]moiety/post.Letter[int],moiety/post.Letter[int]]
def F46 (s_1 : Slc) (w : World) (R : Slc → World → Prop) : Prop :=
  if s_1.a.isNone = true then (
    R (⟨none, 0, 0⟩ : Slc) w
  ) else (
    nwS 61 T60 ([] : List S60) w fun a2 w3 =>
    apd 61 T60 4 32 (⟨some a2, 0, 0⟩ : Slc) s_1 w3 fun r5 w4 =>
    R r5 w4
  )
theorem F46_ok {s_1 : Slc} {w : World} {R : Slc → World → Prop} (h : F46 s_1 w R) : cl Try.prog 46 [tSlc.enc (s_1)] tSlc w R := by
  unfold F46 at h
  refine calls_start 8 Try.func46 rfl rfl (Nat.le_of_ble_eq_true rfl) ?_
  refine wp_seq ?_
  refine wp_text [0] rfl ?_
  refine ro_val (d := (some 2)) rfl (.free rfl) rfl (q_assign (v := tSlc.enc ((⟨none, 0, 0⟩ : Slc))) rfl rfl) ?_
  refine ro_nil ?_
  refine wp_seq ?_
  refine wp_seq ?_
  refine wp_text [0, 1] rfl ?_
  refine ro_val (d := (some 3)) rfl (.free rfl) rfl (q_move (v := tSlc.enc (s_1)) rfl rfl) ?_
  refine ro_val (d := (some 4)) rfl (.free rfl) rfl (q_eqL0 (s := s_1) rfl Try.underlying58 rfl rfl) ?_
  refine ro_nil ?_
  refine wp_if (b := s_1.a.isNone) rfl h (fun hb6 h => ?_) (fun hb6 h => ?_)
  · refine wp_seq ?_
    refine wp_text [0] rfl ?_
    refine ro_val (d := (some 2)) rfl (.free rfl) rfl (q_assign (v := tSlc.enc ((⟨none, 0, 0⟩ : Slc))) rfl rfl) ?_
    refine ro_nil ?_
    refine wp_ret ?_
    exact ret_ok rfl (.cons (.tmp (v := tSlc.enc ((⟨none, 0, 0⟩ : Slc))) rfl) .nil) ⟨(⟨none, 0, 0⟩ : Slc), rfl, h⟩
  · refine wp_skip ?_
    refine wp_seq ?_
    refine wp_text [0, 1, 2, 3] rfl ?_
    obtain ⟨a2, w3, ha2, hw3, h⟩ := nwS_open h
    refine ro_val (d := (some 5)) rfl (.free rfl) rfl (q_row0 (T := T60) rfl Try.underlying58 ok61 inf61 ha2 hw3) ?_
    refine ro_val (d := (some 6)) rfl (.free rfl) rfl (q_move (v := tSlc.enc (s_1)) rfl rfl) ?_
    refine ro_wp rfl (.free rfl) (wp_append (d := (some 7)) (T := T60) rfl rfl Try.underlying58 ⟨_, Try.underlying58⟩ ok61 inf61 rfl rfl (Nat.lt_of_lt_of_le Nat.zero_lt_one (Nat.le_of_ble_eq_true rfl)) rfl rfl h ?_)
    intro r5 w4 h
    refine ro_val (d := (some 2)) rfl (.free rfl) rfl (q_assign (v := tSlc.enc (r5)) rfl rfl) ?_
    refine ro_nil ?_
    refine wp_ret ?_
    exact ret_ok rfl (.cons (.tmp (v := tSlc.enc (r5)) rfl) .nil) ⟨r5, rfl, h⟩

-- slices.DeleteFunc[[]moiety/post.Letter[int],moiety/post.Letter[int]]
def F47_j2 (j_6 : Int) (i_9 : Int) (w10 : World) (K8 : Int × Int → World → Prop) (R : Slc → World → Prop) : Prop :=
  K8 (i_9, (IntKind.i64.wrap (j_6 + (1 : Int)))) w10
def F47_l1 (s_1 : Slc) (del_2 : Fv) (i_5 : Int) (j_6 : Int) (w7 : World) (K8 : Int × Int → World → Prop) (R : Slc → World → Prop) : Prop :=
  if (decide (j_6 < (s_1.len : Int))) = true then (
    ex (IxA s_1 4 j_6) fun a11 =>
    ex (RdAt T60 a11 w7) fun x12 =>
    nw 61 T60 Z60 w7 fun a13 w14 =>
    st T60 a13 x12 w14 fun w15 =>
    ex (RdAt T60 a13 w15) fun x16 =>
    clv Try.prog del_2 [T60.enc (x16)] tBool w15 fun r18 w17 =>
    if (!r18) = true then (
      ex (RdAt T60 a13 w17) fun x19 =>
      ex (IxA s_1 4 i_5) fun a20 =>
      st T60 a20 x19 w17 fun w21 =>
      F47_j2 j_6 (IntKind.i64.wrap (i_5 + (1 : Int))) w21 K8 R
    ) else (
      F47_j2 j_6 i_5 w17 K8 R
    )
  ) else (
    ex (Sub s_1 4 i_5 ((s_1).len : Int) ((s_1).cap : Int)) fun s23 =>
    clrS T60 4 Z60 s23 w7 fun w24 =>
    ex (Sub s_1 4 0 i_5 ((s_1).cap : Int)) fun s25 =>
    R s25 w24
  )
def F47 (s_1 : Slc) (del_2 : Fv) (w : World) (R : Slc → World → Prop) : Prop :=
  cl Try.prog 51 [tSlc.enc (s_1), (del_2).enc] (tInt .i64) w fun r4 w3 =>
  if (r4 == (-1 : Int)) = true then (
    R s_1 w3
  ) else (
    lp (fun (s : Int × Int) w K => F47_l1 s_1 del_2 s.1 s.2 w K R) (r4, (IntKind.i64.wrap (r4 + (1 : Int)))) w3
  )
theorem F47_ok {s_1 : Slc} {del_2 : Fv} {w : World} {R : Slc → World → Prop} (h : F47 s_1 del_2 w R) : cl Try.prog 47 [tSlc.enc (s_1), (del_2).enc] tSlc w R := by
  unfold F47 at h
  refine calls_start 42 Try.func47 rfl rfl (Nat.le_of_ble_eq_true rfl) ?_
  refine wp_seq ?_
  refine wp_text [0] rfl ?_
  refine ro_val (d := (some 4)) rfl (.free rfl) rfl (q_assign (v := tSlc.enc ((⟨none, 0, 0⟩ : Slc))) rfl rfl) ?_
  refine ro_nil ?_
  refine wp_seq ?_
  refine wp_text [0, 1, 2, 3] rfl ?_
  refine ro_val (d := (some 8)) rfl (.free rfl) rfl (q_move (v := tSlc.enc (s_1)) rfl rfl) ?_
  refine ro_val (d := (some 9)) rfl (.free rfl) rfl (q_move (v := (del_2).enc) rfl rfl) ?_
  refine ro_wp rfl (.free rfl) (wp_cl (d := (some 10)) rfl (q_call (k := 51) (l := [tSlc.enc (s_1), (del_2).enc]) rfl ent51 rfl) h ?_)
  intro r4 w3 h
  refine ro_val (d := (some 5)) rfl (.free rfl) rfl (q_assign (v := .int .i64 (r4)) rfl rfl) ?_
  refine ro_nil ?_
  refine wp_seq ?_
  refine wp_seq ?_
  refine wp_text [0, 1] rfl ?_
  refine ro_val (d := (some 11)) rfl (.free rfl) rfl (q_move (v := .int .i64 (r4)) rfl rfl) ?_
  refine ro_val (d := (some 12)) rfl (.free rfl) rfl (q_eql (a := r4) (b := (-1 : Int)) rfl rfl rfl) ?_
  refine ro_nil ?_
  refine wp_if (b := (r4 == (-1 : Int))) rfl h (fun hb27 h => ?_) (fun hb27 h => ?_)
  · refine wp_seq ?_
    refine wp_text [0, 1] rfl ?_
    refine ro_val (d := (some 13)) rfl (.free rfl) rfl (q_move (v := tSlc.enc (s_1)) rfl rfl) ?_
    refine ro_val (d := (some 4)) rfl (.free rfl) rfl (q_assign (v := tSlc.enc (s_1)) rfl rfl) ?_
    refine ro_nil ?_
    refine wp_ret ?_
    exact ret_ok rfl (.cons (.tmp (v := tSlc.enc (s_1)) rfl) .nil) ⟨s_1, rfl, h⟩
  · refine wp_skip ?_
    refine wp_seq ?_
    refine wp_seq ?_
    refine wp_text [0, 1, 2] rfl ?_
    refine ro_val (d := (some 14)) rfl (.free rfl) rfl (q_move (v := .int .i64 (r4)) rfl rfl) ?_
    refine ro_val (d := (some 15)) rfl (.free rfl) rfl (q_add (a := r4) (b := (1 : Int)) rfl rfl rfl) ?_
    refine ro_val (d := (some 6)) rfl (.free rfl) rfl (q_assign (v := .int .i64 ((IntKind.i64.wrap (r4 + (1 : Int))))) rfl rfl) ?_
    refine ro_nil ?_
    refine wp_block ?_
    refine loop_at (σ := Int × Int) (fr := fun g (s : Int × Int) => upd (upd (upd (upd (g) 0 (tSlc.enc (s_1))) 1 ((del_2).enc)) 5 (.int .i64 (s.1))) 6 (.int .i64 (s.2))) (s0 := (r4, (IntKind.i64.wrap (r4 + (1 : Int))))) (upd_step (upd_step (upd_step (upd_step rfl rfl) rfl) rfl) rfl) h ?_
    rintro ⟨i_5, j_6⟩ g w7 K8 h
    unfold F47_l1 at h
    refine wp_seq ?_
    refine wp_seq ?_
    refine wp_text [0, 1, 2, 3] rfl ?_
    refine ro_val (d := (some 16)) rfl (.free rfl) rfl (q_move (v := .int .i64 (j_6)) rfl rfl) ?_
    refine ro_val (d := (some 17)) rfl (.free rfl) rfl (q_move (v := tSlc.enc (s_1)) rfl rfl) ?_
    refine ro_val (d := (some 18)) rfl (.free rfl) rfl (q_len (s := s_1) rfl Try.underlying58 rfl) ?_
    refine ro_val (d := (some 19)) rfl (.free rfl) rfl (q_lss (a := j_6) (b := (s_1.len : Int)) rfl rfl rfl) ?_
    refine ro_nil ?_
    refine wp_if (b := (decide (j_6 < (s_1.len : Int)))) rfl h (fun hb26 h => ?_) (fun hb26 h => ?_)
    · refine wp_skip ?_
      refine seq_join (σ := Int) (J := fun (s : Int) w => F47_j2 j_6 s w K8 R) (fr := fun g (s : Int) => upd (upd (upd (upd (g) 0 (tSlc.enc (s_1))) 1 ((del_2).enc)) 6 (.int .i64 (j_6))) 5 (.int .i64 (s))) ?_ ?_
      · rintro i_9 g w10 h
        unfold F47_j2 at h
        refine wp_text [0, 1, 2] rfl ?_
        refine ro_val (d := (some 20)) rfl (.free rfl) rfl (q_move (v := .int .i64 (j_6)) rfl rfl) ?_
        refine ro_val (d := (some 21)) rfl (.free rfl) rfl (q_add (a := j_6) (b := (1 : Int)) rfl rfl rfl) ?_
        refine ro_val (d := (some 6)) rfl (.free rfl) rfl (q_assign (v := .int .i64 ((IntKind.i64.wrap (j_6 + (1 : Int))))) rfl rfl) ?_
        refine ro_nil ?_
        exact ⟨(i_9, (IntKind.i64.wrap (j_6 + (1 : Int)))), _, arr (upd_step (upd_step (upd_step (upd_step rfl rfl) rfl) rfl) rfl), h⟩
      · refine wp_block ?_
        refine wp_seq ?_
        refine wp_text [0, 1, 2, 3, 4, 5] rfl ?_
        refine ro_val (d := (some 22)) rfl (.free rfl) rfl (q_move (v := tSlc.enc (s_1)) rfl rfl) ?_
        refine ro_val (d := (some 23)) rfl (.free rfl) rfl (q_move (v := .int .i64 (j_6)) rfl rfl) ?_
        obtain ⟨a11, ha11, h⟩ := h
        refine ro_val (d := (some 24)) rfl (.free rfl) rfl (q_indexAddr (s := s_1) (i := j_6) rfl Try.underlying58 ok61 rfl rfl ha11) ?_
        obtain ⟨x12, hx12, h⟩ := h
        refine ro_val (d := (some 25)) rfl (.free rfl) rfl (q_load (T := T60) (u := x12) (a := a11) rfl ok61 rfl hx12) ?_
        obtain ⟨a13, w14, ha13, hw14, h⟩ := nw_open h
        refine ro_val (d := (some 7)) rfl (.free rfl) rfl (q_alloc (u := Z60) rfl ok61 inf61 ha13 hw14) ?_
        obtain ⟨w15, hw15, hrw15, h⟩ := st_open h
        refine ro_skip (d := none) rfl (.free rfl) rfl (q_store (T := T60) (u := x12) (a := a13) rfl ok61 rfl rfl hrw15 hw15) ?_
        refine ro_nil ?_
        refine wp_seq ?_
        refine wp_text [0, 1, 2, 3] rfl ?_
        refine ro_val (d := (some 26)) rfl (.free rfl) rfl (q_move (v := (del_2).enc) rfl rfl) ?_
        obtain ⟨x16, hx16, h⟩ := h
        refine ro_val (d := (some 27)) rfl (.free rfl) rfl (q_load (T := T60) (u := x16) (a := a13) rfl ok61 rfl hx16) ?_
        refine ro_wp rfl (.free rfl) (wp_clv (d := (some 28)) (l := [T60.enc (x16)]) (fv := del_2) rfl rfl rfl rfl h ?_)
        intro r18 w17 h
        refine ro_val (d := (some 29)) rfl (.free rfl) rfl (q_not (b := r18) rfl rfl) ?_
        refine ro_nil ?_
        refine wp_if (b := (!r18)) rfl h (fun hb22 h => ?_) (fun hb22 h => ?_)
        · refine wp_seq ?_
          refine wp_text [0, 1, 2, 3, 4] rfl ?_
          refine ro_val (d := (some 30)) rfl (.free rfl) rfl (q_move (v := tSlc.enc (s_1)) rfl rfl) ?_
          refine ro_val (d := (some 31)) rfl (.free rfl) rfl (q_move (v := .int .i64 (i_5)) rfl rfl) ?_
          obtain ⟨x19, hx19, h⟩ := h
          refine ro_val (d := (some 32)) rfl (.free rfl) rfl (q_load (T := T60) (u := x19) (a := a13) rfl ok61 rfl hx19) ?_
          obtain ⟨a20, ha20, h⟩ := h
          refine ro_val (d := (some 33)) rfl (.free rfl) rfl (q_indexAddr (s := s_1) (i := i_5) rfl Try.underlying58 ok61 rfl rfl ha20) ?_
          obtain ⟨w21, hw21, hrw21, h⟩ := st_open h
          refine ro_skip (d := none) rfl (.free rfl) rfl (q_store (T := T60) (u := x19) (a := a20) rfl ok61 rfl rfl hrw21 hw21) ?_
          refine ro_nil ?_
          refine wp_text [0, 1, 2] rfl ?_
          refine ro_val (d := (some 34)) rfl (.free rfl) rfl (q_move (v := .int .i64 (i_5)) rfl rfl) ?_
          refine ro_val (d := (some 35)) rfl (.free rfl) rfl (q_add (a := i_5) (b := (1 : Int)) rfl rfl rfl) ?_
          refine ro_val (d := (some 5)) rfl (.free rfl) rfl (q_assign (v := .int .i64 ((IntKind.i64.wrap (i_5 + (1 : Int))))) rfl rfl) ?_
          refine ro_nil ?_
          exact ⟨((IntKind.i64.wrap (i_5 + (1 : Int)))), _, arr (upd_step (upd_step (upd_step (upd_step rfl rfl) rfl) rfl) rfl), h⟩
        · refine wp_skip ?_
          exact ⟨(i_5), _, arr (upd_step (upd_step (upd_step (upd_step rfl rfl) rfl) rfl) rfl), h⟩
    · refine wp_exit ?_
      refine wp_seq ?_
      refine wp_text [0, 1, 2, 3] rfl ?_
      refine ro_val (d := (some 36)) rfl (.free rfl) rfl (q_move (v := tSlc.enc (s_1)) rfl rfl) ?_
      refine ro_val (d := (some 37)) rfl (.free rfl) rfl (q_move (v := .int .i64 (i_5)) rfl rfl) ?_
      obtain ⟨s23, hs23, h⟩ := h
      refine ro_val (d := (some 38)) rfl (.free rfl) rfl (q_sliceL (s := s_1) (l := i_5) rfl Try.underlying58 ok61 rfl rfl hs23) ?_
      refine ro_wp rfl (.free rfl) (wp_clrS (T := T60) (s := s23) (z := Z60) (d := none) rfl rfl Try.underlying58 ok61 inf61 rfl h ?_)
      intro w24 h
      refine ro_nil ?_
      refine wp_seq ?_
      refine wp_text [0, 1, 2, 3] rfl ?_
      refine ro_val (d := (some 39)) rfl (.free rfl) rfl (q_move (v := tSlc.enc (s_1)) rfl rfl) ?_
      refine ro_val (d := (some 40)) rfl (.free rfl) rfl (q_move (v := .int .i64 (i_5)) rfl rfl) ?_
      obtain ⟨s25, hs25, h⟩ := h
      refine ro_val (d := (some 41)) rfl (.free rfl) rfl (q_sliceH (s := s_1) (h := i_5) rfl Try.underlying58 ok61 rfl rfl hs25) ?_
      refine ro_val (d := (some 4)) rfl (.free rfl) rfl (q_assign (v := tSlc.enc (s25)) rfl rfl) ?_
      refine ro_nil ?_
      refine wp_ret ?_
      exact ret_ok rfl (.cons (.tmp (v := tSlc.enc (s25)) rfl) .nil) ⟨s25, rfl, h⟩

-- (*moiety/post.Net[int]).Purge$1
def F48 (x_1 : S60) (t_2 : Addr) (w : World) (R : Bool → World → Prop) : Prop :=
  nw 61 T60 x_1 w fun a3 w4 =>
  ex (RdAt (tInt .i64) (a3.add 2) w4) fun x5 =>
  ex (RdAt (tInt .i64) t_2 w4) fun x6 =>
  R (x5 == x6) w4
theorem F48_ok {x_1 : S60} {t_2 : Addr} {w : World} {R : Bool → World → Prop} (h : F48 x_1 t_2 w R) : cl Try.prog 48 [T60.enc (x_1), .pointer (some t_2)] tBool w R := by
  unfold F48 at h
  refine calls_start 8 Try.func48 rfl rfl (Nat.le_of_ble_eq_true rfl) ?_
  refine wp_seq ?_
  refine wp_text [0, 1] rfl ?_
  obtain ⟨a3, w4, ha3, hw4, h⟩ := nw_open h
  refine ro_val (d := (some 2)) rfl (.free rfl) rfl (q_box (u := x_1) rfl ok61 rfl ha3 hw4) ?_
  refine ro_val (d := (some 3)) rfl (.free rfl) rfl (q_assign (v := .bool (false)) rfl rfl) ?_
  refine ro_nil ?_
  refine wp_seq ?_
  refine wp_text [0, 1, 2, 3, 4] rfl ?_
  refine ro_val (d := (some 4)) rfl (.free rfl) rfl (q_fieldAddr (a := a3) (off := 2) rfl Try.underlying61 rfl rfl ok3 (by decide) rfl) ?_
  obtain ⟨x5, hx5, h⟩ := h
  refine ro_val (d := (some 5)) rfl (.free rfl) rfl (q_load (T := (tInt .i64)) (u := x5) (a := (a3.add 2)) rfl ok3 rfl hx5) ?_
  obtain ⟨x6, hx6, h⟩ := h
  refine ro_val (d := (some 6)) rfl (.free rfl) rfl (q_load (T := (tInt .i64)) (u := x6) (a := t_2) rfl ok3 rfl hx6) ?_
  refine ro_val (d := (some 7)) rfl (.free rfl) rfl (q_eql (a := x5) (b := x6) rfl rfl rfl) ?_
  refine ro_val (d := (some 3)) rfl (.free rfl) rfl (q_assign (v := .bool ((x5 == x6))) rfl rfl) ?_
  refine ro_nil ?_
  refine wp_ret ?_
  exact ret_ok rfl (.cons (.tmp (v := .bool ((x5 == x6))) rfl) .nil) ⟨(x5 == x6), rfl, h⟩

end Go.Proofs.Ytpflfnaflacfgaa.Cf
