/- Characteristic formulae of Go functions, and that they are. Printed by gen.py (own tool). -/
import Derived.Test.YtleehieomicicaaTy
namespace Go.Proofs.Ytleehieomicicaa.Cf
open Go
set_option maxRecDepth 100000
set_option maxHeartbeats 1000000
set_option linter.unusedVariables false
set_option linter.unusedSimpArgs false

-- moiety/moietylaw17.add
def F19_j2 (out_5 : Slc) (a10 : Addr) (i_13 : Int) (k_14 : Int) (w15 : World) (K9 : Slc × Int × Int → World → Prop) (R : Slc → World → Prop) : Prop :=
  ex (RdAt (tInt .i64) (a10.add 1) w15) fun x16 =>
  if (x16 != (0 : Int)) = true then (
    ex (RdAt T36 a10 w15) fun x17 =>
    apl 37 T36 2 16 out_5 [x17] w15 fun r21 w20 =>
    K9 (r21, i_13, k_14) w20
  ) else (
    K9 (out_5, i_13, k_14) w15
  )
def F19_l1 (a_1 : Slc) (d_2 : Slc) (out_5 : Slc) (i_6 : Int) (k_7 : Int) (w8 : World) (K9 : Slc × Int × Int → World → Prop) (R : Slc → World → Prop) : Prop :=
  if ((decide (i_6 < (a_1.len : Int))) || (decide (k_7 < (d_2.len : Int)))) = true then (
    nw 37 T36 Z36 w8 fun a10 w11 =>
    st T36 a10 (⟨(0 : Int), (0 : Int)⟩ : S36) w11 fun w12 =>
    dr w12 fun w23 =>
    ex (fun x => ((!(k_7 == (d_2.len : Int))) && (decide (i_6 < (a_1.len : Int)))) = true → (IxA a_1 2 i_6) x) fun a24 =>
    ex (fun x => ((!(k_7 == (d_2.len : Int))) && (decide (i_6 < (a_1.len : Int)))) = true → (IxA d_2 2 k_7) x) fun a25 =>
    ex (fun x => ((!(k_7 == (d_2.len : Int))) && (decide (i_6 < (a_1.len : Int)))) = true → (RdAt (tInt .i64) (a24.add 0) w23) x) fun x26 =>
    ex (fun x => ((!(k_7 == (d_2.len : Int))) && (decide (i_6 < (a_1.len : Int)))) = true → (RdAt (tInt .i64) (a25.add 0) w23) x) fun x27 =>
    if ((k_7 == (d_2.len : Int)) || ((decide (i_6 < (a_1.len : Int))) && (decide (x26 < x27)))) = true then (
      ex (IxA a_1 2 i_6) fun a28 =>
      ex (RdAt T36 a28 w23) fun x29 =>
      st T36 a10 x29 w23 fun w30 =>
      F19_j2 out_5 a10 (IntKind.i64.wrap (i_6 + (1 : Int))) k_7 w30 K9 R
    ) else (
      dr w23 fun w31 =>
      ex (fun x => (!(i_6 == (a_1.len : Int))) = true → (IxA d_2 2 k_7) x) fun a32 =>
      ex (fun x => (!(i_6 == (a_1.len : Int))) = true → (IxA a_1 2 i_6) x) fun a33 =>
      ex (fun x => (!(i_6 == (a_1.len : Int))) = true → (RdAt (tInt .i64) (a32.add 0) w31) x) fun x34 =>
      ex (fun x => (!(i_6 == (a_1.len : Int))) = true → (RdAt (tInt .i64) (a33.add 0) w31) x) fun x35 =>
      if ((i_6 == (a_1.len : Int)) || (decide (x34 < x35))) = true then (
        ex (IxA d_2 2 k_7) fun a36 =>
        ex (RdAt T36 a36 w31) fun x37 =>
        st T36 a10 x37 w31 fun w38 =>
        F19_j2 out_5 a10 i_6 (IntKind.i64.wrap (k_7 + (1 : Int))) w38 K9 R
      ) else (
        dr w31 fun w39 =>
        ex (IxA a_1 2 i_6) fun a40 =>
        ex (IxA a_1 2 i_6) fun a41 =>
        ex (IxA d_2 2 k_7) fun a42 =>
        ex (RdAt (tInt .i64) (a40.add 0) w39) fun x43 =>
        ex (RdAt (tInt .i64) (a41.add 1) w39) fun x44 =>
        ex (RdAt (tInt .i64) (a42.add 1) w39) fun x45 =>
        st T36 a10 (⟨x43, (IntKind.i64.wrap (x44 + x45))⟩ : S36) w39 fun w46 =>
        F19_j2 out_5 a10 (IntKind.i64.wrap (i_6 + (1 : Int))) (IntKind.i64.wrap (k_7 + (1 : Int))) w46 K9 R
      )
    )
  ) else (
    R out_5 w8
  )
def F19 (a_1 : Slc) (d_2 : Slc) (w : World) (R : Slc → World → Prop) : Prop :=
  nwS 37 T36 ([] : List S36) w fun a3 w4 =>
  lp (fun (s : Slc × Int × Int) w K => F19_l1 a_1 d_2 s.1 s.2.1 s.2.2 w K R) ((⟨some a3, 0, 0⟩ : Slc), (0 : Int), (0 : Int)) w4
theorem F19_ok {a_1 : Slc} {d_2 : Slc} {w : World} {R : Slc → World → Prop} (h : F19 a_1 d_2 w R) : cl Try.prog 19 [tSlc.enc (a_1), tSlc.enc (d_2)] tSlc w R := by
  unfold F19 at h
  refine calls_start 102 Try.func19 rfl rfl (Nat.le_of_ble_eq_true rfl) ?_
  refine wp_seq ?_
  refine wp_text [0] rfl ?_
  refine ro_val (d := (some 4)) rfl (.free rfl) rfl (q_assign (v := tSlc.enc ((⟨none, 0, 0⟩ : Slc))) rfl rfl) ?_
  refine ro_nil ?_
  refine wp_seq ?_
  refine wp_text [0, 1] rfl ?_
  obtain ⟨a3, w4, ha3, hw4, h⟩ := nwS_open h
  refine ro_val (d := (some 9)) rfl (.free rfl) rfl (q_row0 (T := T36) rfl Try.underlying31 ok37 inf37 ha3 hw4) ?_
  refine ro_val (d := (some 5)) rfl (.free rfl) rfl (q_assign (v := tSlc.enc ((⟨some a3, 0, 0⟩ : Slc))) rfl rfl) ?_
  refine ro_nil ?_
  refine wp_seq ?_
  refine wp_text [0, 1] rfl ?_
  refine ro_val (d := (some 6)) rfl (.free rfl) rfl (q_assign (v := .int .i64 ((0 : Int))) rfl rfl) ?_
  refine ro_val (d := (some 7)) rfl (.free rfl) rfl (q_assign (v := .int .i64 ((0 : Int))) rfl rfl) ?_
  refine ro_nil ?_
  refine wp_seq ?_
  refine wp_block ?_
  refine loop_at (σ := Slc × Int × Int) (fr := fun g (s : Slc × Int × Int) => upd (upd (upd (upd (upd (g) 0 (tSlc.enc (a_1))) 1 (tSlc.enc (d_2))) 5 (tSlc.enc (s.1))) 6 (.int .i64 (s.2.1))) 7 (.int .i64 (s.2.2))) (s0 := ((⟨some a3, 0, 0⟩ : Slc), (0 : Int), (0 : Int))) (upd_step (upd_step (upd_step (upd_step (upd_step rfl rfl) rfl) rfl) rfl) rfl) h ?_
  rintro ⟨out_5, i_6, k_7⟩ g w8 K9 h
  unfold F19_l1 at h
  refine wp_seq ?_
  refine wp_seq ?_
  refine wp_text [0, 1, 2, 3, 4, 5, 6, 7, 8, 9] rfl ?_
  refine ro_val (d := (some 10)) rfl (.free rfl) rfl (q_move (v := .int .i64 (i_6)) rfl rfl) ?_
  refine ro_val (d := (some 11)) rfl (.free rfl) rfl (q_move (v := tSlc.enc (a_1)) rfl rfl) ?_
  refine ro_val (d := (some 12)) rfl (.free rfl) rfl (q_len (s := a_1) rfl Try.underlying31 rfl) ?_
  refine ro_val (d := (some 13)) rfl (.free rfl) rfl (q_lss (a := i_6) (b := (a_1.len : Int)) rfl rfl rfl) ?_
  refine ro_val (d := (some 14)) rfl (.free rfl) rfl (q_move (v := .bool ((decide (i_6 < (a_1.len : Int))))) rfl rfl) ?_
  refine ro_gval (g := (!(decide (i_6 < (a_1.len : Int))))) (d := (some 15)) rfl (.no 4 14 true (decide (i_6 < (a_1.len : Int))) rfl rfl rfl rfl) rfl (fun hg => q_move (v := .int .i64 (k_7)) rfl rfl) ?_
  refine ro_gval (g := (!(decide (i_6 < (a_1.len : Int))))) (d := (some 16)) rfl (.no 4 14 true (decide (i_6 < (a_1.len : Int))) rfl rfl rfl rfl) rfl (fun hg => q_move (v := tSlc.enc (d_2)) rfl rfl) ?_
  refine ro_gval (g := (!(decide (i_6 < (a_1.len : Int))))) (d := (some 17)) rfl (.no 4 14 true (decide (i_6 < (a_1.len : Int))) rfl rfl rfl rfl) rfl (fun hg => q_len (s := d_2) rfl Try.underlying31 (gvb_yes hg)) ?_
  refine ro_gval (g := (!(decide (i_6 < (a_1.len : Int))))) (d := (some 18)) rfl (.no 4 14 true (decide (i_6 < (a_1.len : Int))) rfl rfl rfl rfl) rfl (fun hg => q_lss (a := k_7) (b := (d_2.len : Int)) rfl (gvb_yes hg) (gvb_yes hg)) ?_
  refine ro_val (d := (some 19)) rfl (.free rfl) rfl (q_pickGF (a := (decide (i_6 < (a_1.len : Int)))) (c := (decide (k_7 < (d_2.len : Int)))) rfl rfl rfl rfl) ?_
  refine ro_nil ?_
  refine wp_if (b := ((decide (i_6 < (a_1.len : Int))) || (decide (k_7 < (d_2.len : Int))))) rfl h (fun hb49 h => ?_) (fun hb49 h => ?_)
  · refine wp_skip ?_
    refine wp_block ?_
    refine wp_seq ?_
    refine wp_text [0, 1, 2] rfl ?_
    refine ro_val (d := (some 20)) rfl (.free rfl) rfl (q_build37_  rfl ) ?_
    obtain ⟨a10, w11, ha10, hw11, h⟩ := nw_open h
    refine ro_val (d := (some 8)) rfl (.free rfl) rfl (q_alloc (u := Z36) rfl ok37 inf37 ha10 hw11) ?_
    obtain ⟨w12, hw12, hrw12, h⟩ := st_open h
    refine ro_skip (d := none) rfl (.free rfl) rfl (q_store (T := T36) (u := (⟨(0 : Int), (0 : Int)⟩ : S36)) (a := a10) rfl ok37 rfl rfl hrw12 hw12) ?_
    refine ro_nil ?_
    refine seq_join (σ := Int × Int) (J := fun (s : Int × Int) w => F19_j2 out_5 a10 s.1 s.2 w K9 R) (fr := fun g (s : Int × Int) => upd (upd (upd (upd (upd (upd (g) 0 (tSlc.enc (a_1))) 1 (tSlc.enc (d_2))) 5 (tSlc.enc (out_5))) 8 (.pointer (some a10))) 6 (.int .i64 (s.1))) 7 (.int .i64 (s.2))) ?_ ?_
    · rintro ⟨i_13, k_14⟩ g w15 h
      unfold F19_j2 at h
      refine wp_seq ?_
      refine wp_text [0, 1, 2] rfl ?_
      refine ro_val (d := (some 94)) rfl (.free rfl) rfl (q_fieldAddr (a := a10) (off := 1) rfl Try.underlying37 rfl rfl ok2 (by decide) rfl) ?_
      obtain ⟨x16, hx16, h⟩ := h
      refine ro_val (d := (some 95)) rfl (.free rfl) rfl (q_load (T := (tInt .i64)) (u := x16) (a := (a10.add 1)) rfl ok2 rfl hx16) ?_
      refine ro_val (d := (some 96)) rfl (.free rfl) rfl (q_neq (a := x16) (b := (0 : Int)) rfl rfl rfl) ?_
      refine ro_nil ?_
      refine wp_if (b := (x16 != (0 : Int))) rfl h (fun hb22 h => ?_) (fun hb22 h => ?_)
      · refine wp_text [0, 1, 2, 3, 4] rfl ?_
        refine ro_val (d := (some 97)) rfl (.free rfl) rfl (q_move (v := tSlc.enc (out_5)) rfl rfl) ?_
        obtain ⟨x17, hx17, h⟩ := h
        refine ro_val (d := (some 98)) rfl (.free rfl) rfl (q_load (T := T36) (u := x17) (a := a10) rfl ok37 rfl hx17) ?_
        obtain ⟨a18, w19, ha18, hw19, h⟩ := apl_open h
        refine ro_val (d := (some 99)) rfl (.free rfl) rfl (q_rowOf (T := T36) (xs := [x17]) rfl Try.underlying31 ok37 inf37 rfl (by decide) (by decide) rfl ha18 hw19) ?_
        refine ro_wp rfl (.free rfl) (wp_append (d := (some 100)) (T := T36) rfl rfl Try.underlying31 ⟨_, Try.underlying31⟩ ok37 inf37 rfl rfl (Nat.lt_of_lt_of_le Nat.zero_lt_one (Nat.le_of_ble_eq_true rfl)) rfl rfl h ?_)
        intro r21 w20 h
        refine ro_val (d := (some 5)) rfl (.free rfl) rfl (q_assign (v := tSlc.enc (r21)) rfl rfl) ?_
        refine ro_nil ?_
        exact ⟨(r21, i_13, k_14), _, arr (upd_step (upd_step (upd_step (upd_step (upd_step rfl rfl) rfl) rfl) rfl) rfl), h⟩
      · refine wp_skip ?_
        exact ⟨(out_5, i_13, k_14), _, arr (upd_step (upd_step (upd_step (upd_step (upd_step rfl rfl) rfl) rfl) rfl) rfl), h⟩
    · refine wp_seq ?_
      obtain ⟨w23, hw23, h⟩ := dr_open h
      refine wp_drawn 23 mixed rfl (by kernel_rfl) (by intro c a d v w h; cases d <;> exact h) hw23 (fun hD => ?_)
      refine rd_pure (i := 0) (d := (some 21)) hD (by kernel_rfl) (by kernel_rfl) rfl (.free rfl) rfl (fun _ => q_move (v := .int .i64 (k_7)) rfl rfl) ?_
      refine rd_pure (i := 1) (d := (some 22)) hD (by kernel_rfl) (by kernel_rfl) rfl (.free rfl) rfl (fun _ => q_move (v := tSlc.enc (d_2)) rfl rfl) ?_
      refine rd_pure (i := 2) (d := (some 23)) hD (by kernel_rfl) (by kernel_rfl) rfl (.free rfl) rfl (fun _ => q_len (s := d_2) rfl Try.underlying31 rfl) ?_
      refine rd_pure (i := 3) (d := (some 24)) hD (by kernel_rfl) (by kernel_rfl) rfl (.free rfl) rfl (fun _ => q_eql (a := k_7) (b := (d_2.len : Int)) rfl rfl rfl) ?_
      refine rd_pure (i := 4) (d := (some 25)) hD (by kernel_rfl) (by kernel_rfl) rfl (.free rfl) rfl (fun _ => q_move (v := .bool ((k_7 == (d_2.len : Int)))) rfl rfl) ?_
      refine rd_gpure (i := 5) (g := (!(k_7 == (d_2.len : Int)))) (d := (some 26)) hD (by kernel_rfl) (by kernel_rfl) rfl (.no 4 25 true (k_7 == (d_2.len : Int)) rfl rfl rfl rfl) rfl (fun hg _ => q_move (v := .int .i64 (i_6)) rfl rfl) ?_
      refine rd_gpure (i := 6) (g := (!(k_7 == (d_2.len : Int)))) (d := (some 27)) hD (by kernel_rfl) (by kernel_rfl) rfl (.no 4 25 true (k_7 == (d_2.len : Int)) rfl rfl rfl rfl) rfl (fun hg _ => q_move (v := tSlc.enc (a_1)) rfl rfl) ?_
      refine rd_gpure (i := 7) (g := (!(k_7 == (d_2.len : Int)))) (d := (some 28)) hD (by kernel_rfl) (by kernel_rfl) rfl (.no 4 25 true (k_7 == (d_2.len : Int)) rfl rfl rfl rfl) rfl (fun hg _ => q_len (s := a_1) rfl Try.underlying31 (gvb_yes hg)) ?_
      refine rd_gpure (i := 8) (g := (!(k_7 == (d_2.len : Int)))) (d := (some 29)) hD (by kernel_rfl) (by kernel_rfl) rfl (.no 4 25 true (k_7 == (d_2.len : Int)) rfl rfl rfl rfl) rfl (fun hg _ => q_lss (a := i_6) (b := (a_1.len : Int)) rfl (gvb_yes hg) (gvb_yes hg)) ?_
      refine rd_gpure (i := 9) (g := (!(k_7 == (d_2.len : Int)))) (d := (some 30)) hD (by kernel_rfl) (by kernel_rfl) rfl (.no 4 25 true (k_7 == (d_2.len : Int)) rfl rfl rfl rfl) rfl (fun hg _ => q_move (v := .bool ((decide (i_6 < (a_1.len : Int))))) rfl (gvb_yes hg)) ?_
      refine rd_gpure (i := 10) (g := ((!(k_7 == (d_2.len : Int))) && (decide (i_6 < (a_1.len : Int))))) (d := (some 31)) hD (by kernel_rfl) (by kernel_rfl) rfl (.yes 9 30 (!(k_7 == (d_2.len : Int))) (decide (i_6 < (a_1.len : Int))) rfl rfl rfl rfl) rfl (fun hg _ => q_move (v := tSlc.enc (a_1)) rfl rfl) ?_
      refine rd_gpure (i := 11) (g := ((!(k_7 == (d_2.len : Int))) && (decide (i_6 < (a_1.len : Int))))) (d := (some 32)) hD (by kernel_rfl) (by kernel_rfl) rfl (.yes 9 30 (!(k_7 == (d_2.len : Int))) (decide (i_6 < (a_1.len : Int))) rfl rfl rfl rfl) rfl (fun hg _ => q_move (v := .int .i64 (i_6)) rfl rfl) ?_
      obtain ⟨a24, ha24, h⟩ := h
      refine rd_gpure (i := 12) (g := ((!(k_7 == (d_2.len : Int))) && (decide (i_6 < (a_1.len : Int))))) (d := (some 33)) hD (by kernel_rfl) (by kernel_rfl) rfl (.yes 9 30 (!(k_7 == (d_2.len : Int))) (decide (i_6 < (a_1.len : Int))) rfl rfl rfl rfl) rfl (fun hg _ => q_indexAddr (s := a_1) (i := i_6) rfl Try.underlying31 ok37 (gvb_yes hg) (gvb_yes hg) (ha24 hg)) ?_
      refine rd_gpure (i := 13) (g := ((!(k_7 == (d_2.len : Int))) && (decide (i_6 < (a_1.len : Int))))) (d := (some 34)) hD (by kernel_rfl) (by kernel_rfl) rfl (.yes 9 30 (!(k_7 == (d_2.len : Int))) (decide (i_6 < (a_1.len : Int))) rfl rfl rfl rfl) rfl (fun hg _ => q_fieldAddr (a := a24) (off := 0) rfl Try.underlying37 rfl rfl ok3 (by decide) (gvb_yes hg)) ?_
      refine rd_gpure (i := 15) (g := ((!(k_7 == (d_2.len : Int))) && (decide (i_6 < (a_1.len : Int))))) (d := (some 36)) hD (by kernel_rfl) (by kernel_rfl) rfl (.yes 9 30 (!(k_7 == (d_2.len : Int))) (decide (i_6 < (a_1.len : Int))) rfl rfl rfl rfl) rfl (fun hg _ => q_move (v := tSlc.enc (d_2)) rfl rfl) ?_
      refine rd_gpure (i := 16) (g := ((!(k_7 == (d_2.len : Int))) && (decide (i_6 < (a_1.len : Int))))) (d := (some 37)) hD (by kernel_rfl) (by kernel_rfl) rfl (.yes 9 30 (!(k_7 == (d_2.len : Int))) (decide (i_6 < (a_1.len : Int))) rfl rfl rfl rfl) rfl (fun hg _ => q_move (v := .int .i64 (k_7)) rfl rfl) ?_
      obtain ⟨a25, ha25, h⟩ := h
      refine rd_gpure (i := 17) (g := ((!(k_7 == (d_2.len : Int))) && (decide (i_6 < (a_1.len : Int))))) (d := (some 38)) hD (by kernel_rfl) (by kernel_rfl) rfl (.yes 9 30 (!(k_7 == (d_2.len : Int))) (decide (i_6 < (a_1.len : Int))) rfl rfl rfl rfl) rfl (fun hg _ => q_indexAddr (s := d_2) (i := k_7) rfl Try.underlying31 ok37 (gvb_yes hg) (gvb_yes hg) (ha25 hg)) ?_
      refine rd_gpure (i := 18) (g := ((!(k_7 == (d_2.len : Int))) && (decide (i_6 < (a_1.len : Int))))) (d := (some 39)) hD (by kernel_rfl) (by kernel_rfl) rfl (.yes 9 30 (!(k_7 == (d_2.len : Int))) (decide (i_6 < (a_1.len : Int))) rfl rfl rfl rfl) rfl (fun hg _ => q_fieldAddr (a := a25) (off := 0) rfl Try.underlying37 rfl rfl ok3 (by decide) (gvb_yes hg)) ?_
      obtain ⟨x26, hx26, h⟩ := h
      refine rd_gread (i := 14) (g := ((!(k_7 == (d_2.len : Int))) && (decide (i_6 < (a_1.len : Int))))) (d := (some 35)) (fun W => (RdAt (tInt .i64) (a24.add 0) W) x26) hD (by kernel_rfl) (by kernel_rfl) rfl (.yes 9 30 (!(k_7 == (d_2.len : Int))) (decide (i_6 < (a_1.len : Int))) rfl rfl rfl rfl) rfl (fun hg W hr => q_load (T := (tInt .i64)) (u := x26) (a := (a24.add 0)) rfl ok3 (gvb_yes hg) hr) hx26 ?_
      obtain ⟨x27, hx27, h⟩ := h
      refine rd_gread (i := 19) (g := ((!(k_7 == (d_2.len : Int))) && (decide (i_6 < (a_1.len : Int))))) (d := (some 40)) (fun W => (RdAt (tInt .i64) (a25.add 0) W) x27) hD (by kernel_rfl) (by kernel_rfl) rfl (.yes 9 30 (!(k_7 == (d_2.len : Int))) (decide (i_6 < (a_1.len : Int))) rfl rfl rfl rfl) rfl (fun hg W hr => q_load (T := (tInt .i64)) (u := x27) (a := (a25.add 0)) rfl ok3 (gvb_yes hg) hr) hx27 ?_
      refine rd_gpure (i := 20) (g := ((!(k_7 == (d_2.len : Int))) && (decide (i_6 < (a_1.len : Int))))) (d := (some 41)) hD (by kernel_rfl) (by kernel_rfl) rfl (.yes 9 30 (!(k_7 == (d_2.len : Int))) (decide (i_6 < (a_1.len : Int))) rfl rfl rfl rfl) rfl (fun hg _ => q_lss (a := x26) (b := x27) rfl (gvb_yes hg) (gvb_yes hg)) ?_
      refine rd_gpure (i := 21) (g := (!(k_7 == (d_2.len : Int)))) (d := (some 42)) hD (by kernel_rfl) (by kernel_rfl) rfl (.no 4 25 true (k_7 == (d_2.len : Int)) rfl rfl rfl rfl) rfl (fun hg _ => q_pickNT (g0 := (!(k_7 == (d_2.len : Int)))) (a := (decide (i_6 < (a_1.len : Int)))) (b := (decide (x26 < x27))) hg rfl rfl rfl rfl) ?_
      refine rd_pure (i := 22) (d := (some 43)) hD (by kernel_rfl) (by kernel_rfl) rfl (.free rfl) rfl (fun _ => q_pickGF (a := (k_7 == (d_2.len : Int))) (c := ((decide (i_6 < (a_1.len : Int))) && (decide (x26 < x27)))) rfl rfl rfl rfl) ?_
      refine rd_nil (by kernel_rfl) ?_
      refine wp_if (b := ((k_7 == (d_2.len : Int)) || ((decide (i_6 < (a_1.len : Int))) && (decide (x26 < x27))))) rfl h (fun hb48 h => ?_) (fun hb48 h => ?_)
      · refine wp_seq ?_
        refine wp_text [0, 1, 2, 3, 4] rfl ?_
        refine ro_val (d := (some 44)) rfl (.free rfl) rfl (q_move (v := tSlc.enc (a_1)) rfl rfl) ?_
        refine ro_val (d := (some 45)) rfl (.free rfl) rfl (q_move (v := .int .i64 (i_6)) rfl rfl) ?_
        obtain ⟨a28, ha28, h⟩ := h
        refine ro_val (d := (some 46)) rfl (.free rfl) rfl (q_indexAddr (s := a_1) (i := i_6) rfl Try.underlying31 ok37 rfl rfl ha28) ?_
        obtain ⟨x29, hx29, h⟩ := h
        refine ro_val (d := (some 47)) rfl (.free rfl) rfl (q_load (T := T36) (u := x29) (a := a28) rfl ok37 rfl hx29) ?_
        obtain ⟨w30, hw30, hrw30, h⟩ := st_open h
        refine ro_skip (d := none) rfl (.free rfl) rfl (q_store (T := T36) (u := x29) (a := a10) rfl ok37 rfl rfl hrw30 hw30) ?_
        refine ro_nil ?_
        refine wp_text [0, 1, 2] rfl ?_
        refine ro_val (d := (some 48)) rfl (.free rfl) rfl (q_move (v := .int .i64 (i_6)) rfl rfl) ?_
        refine ro_val (d := (some 49)) rfl (.free rfl) rfl (q_add (a := i_6) (b := (1 : Int)) rfl rfl rfl) ?_
        refine ro_val (d := (some 6)) rfl (.free rfl) rfl (q_assign (v := .int .i64 ((IntKind.i64.wrap (i_6 + (1 : Int))))) rfl rfl) ?_
        refine ro_nil ?_
        exact ⟨((IntKind.i64.wrap (i_6 + (1 : Int))), k_7), _, arr (upd_step (upd_step (upd_step (upd_step (upd_step (upd_step rfl rfl) rfl) rfl) rfl) rfl) rfl), h⟩
      · refine wp_seq ?_
        obtain ⟨w31, hw31, h⟩ := dr_open h
        refine wp_drawn 17 mixed rfl (by kernel_rfl) (by intro c a d v w h; cases d <;> exact h) hw31 (fun hD => ?_)
        refine rd_pure (i := 0) (d := (some 50)) hD (by kernel_rfl) (by kernel_rfl) rfl (.free rfl) rfl (fun _ => q_move (v := .int .i64 (i_6)) rfl rfl) ?_
        refine rd_pure (i := 1) (d := (some 51)) hD (by kernel_rfl) (by kernel_rfl) rfl (.free rfl) rfl (fun _ => q_move (v := tSlc.enc (a_1)) rfl rfl) ?_
        refine rd_pure (i := 2) (d := (some 52)) hD (by kernel_rfl) (by kernel_rfl) rfl (.free rfl) rfl (fun _ => q_len (s := a_1) rfl Try.underlying31 rfl) ?_
        refine rd_pure (i := 3) (d := (some 53)) hD (by kernel_rfl) (by kernel_rfl) rfl (.free rfl) rfl (fun _ => q_eql (a := i_6) (b := (a_1.len : Int)) rfl rfl rfl) ?_
        refine rd_pure (i := 4) (d := (some 54)) hD (by kernel_rfl) (by kernel_rfl) rfl (.free rfl) rfl (fun _ => q_move (v := .bool ((i_6 == (a_1.len : Int)))) rfl rfl) ?_
        refine rd_gpure (i := 5) (g := (!(i_6 == (a_1.len : Int)))) (d := (some 55)) hD (by kernel_rfl) (by kernel_rfl) rfl (.no 4 54 true (i_6 == (a_1.len : Int)) rfl rfl rfl rfl) rfl (fun hg _ => q_move (v := tSlc.enc (d_2)) rfl rfl) ?_
        refine rd_gpure (i := 6) (g := (!(i_6 == (a_1.len : Int)))) (d := (some 56)) hD (by kernel_rfl) (by kernel_rfl) rfl (.no 4 54 true (i_6 == (a_1.len : Int)) rfl rfl rfl rfl) rfl (fun hg _ => q_move (v := .int .i64 (k_7)) rfl rfl) ?_
        obtain ⟨a32, ha32, h⟩ := h
        refine rd_gpure (i := 7) (g := (!(i_6 == (a_1.len : Int)))) (d := (some 57)) hD (by kernel_rfl) (by kernel_rfl) rfl (.no 4 54 true (i_6 == (a_1.len : Int)) rfl rfl rfl rfl) rfl (fun hg _ => q_indexAddr (s := d_2) (i := k_7) rfl Try.underlying31 ok37 (gvb_yes hg) (gvb_yes hg) (ha32 hg)) ?_
        refine rd_gpure (i := 8) (g := (!(i_6 == (a_1.len : Int)))) (d := (some 58)) hD (by kernel_rfl) (by kernel_rfl) rfl (.no 4 54 true (i_6 == (a_1.len : Int)) rfl rfl rfl rfl) rfl (fun hg _ => q_fieldAddr (a := a32) (off := 0) rfl Try.underlying37 rfl rfl ok3 (by decide) (gvb_yes hg)) ?_
        refine rd_gpure (i := 10) (g := (!(i_6 == (a_1.len : Int)))) (d := (some 60)) hD (by kernel_rfl) (by kernel_rfl) rfl (.no 4 54 true (i_6 == (a_1.len : Int)) rfl rfl rfl rfl) rfl (fun hg _ => q_move (v := tSlc.enc (a_1)) rfl rfl) ?_
        refine rd_gpure (i := 11) (g := (!(i_6 == (a_1.len : Int)))) (d := (some 61)) hD (by kernel_rfl) (by kernel_rfl) rfl (.no 4 54 true (i_6 == (a_1.len : Int)) rfl rfl rfl rfl) rfl (fun hg _ => q_move (v := .int .i64 (i_6)) rfl rfl) ?_
        obtain ⟨a33, ha33, h⟩ := h
        refine rd_gpure (i := 12) (g := (!(i_6 == (a_1.len : Int)))) (d := (some 62)) hD (by kernel_rfl) (by kernel_rfl) rfl (.no 4 54 true (i_6 == (a_1.len : Int)) rfl rfl rfl rfl) rfl (fun hg _ => q_indexAddr (s := a_1) (i := i_6) rfl Try.underlying31 ok37 (gvb_yes hg) (gvb_yes hg) (ha33 hg)) ?_
        refine rd_gpure (i := 13) (g := (!(i_6 == (a_1.len : Int)))) (d := (some 63)) hD (by kernel_rfl) (by kernel_rfl) rfl (.no 4 54 true (i_6 == (a_1.len : Int)) rfl rfl rfl rfl) rfl (fun hg _ => q_fieldAddr (a := a33) (off := 0) rfl Try.underlying37 rfl rfl ok3 (by decide) (gvb_yes hg)) ?_
        obtain ⟨x34, hx34, h⟩ := h
        refine rd_gread (i := 9) (g := (!(i_6 == (a_1.len : Int)))) (d := (some 59)) (fun W => (RdAt (tInt .i64) (a32.add 0) W) x34) hD (by kernel_rfl) (by kernel_rfl) rfl (.no 4 54 true (i_6 == (a_1.len : Int)) rfl rfl rfl rfl) rfl (fun hg W hr => q_load (T := (tInt .i64)) (u := x34) (a := (a32.add 0)) rfl ok3 (gvb_yes hg) hr) hx34 ?_
        obtain ⟨x35, hx35, h⟩ := h
        refine rd_gread (i := 14) (g := (!(i_6 == (a_1.len : Int)))) (d := (some 64)) (fun W => (RdAt (tInt .i64) (a33.add 0) W) x35) hD (by kernel_rfl) (by kernel_rfl) rfl (.no 4 54 true (i_6 == (a_1.len : Int)) rfl rfl rfl rfl) rfl (fun hg W hr => q_load (T := (tInt .i64)) (u := x35) (a := (a33.add 0)) rfl ok3 (gvb_yes hg) hr) hx35 ?_
        refine rd_gpure (i := 15) (g := (!(i_6 == (a_1.len : Int)))) (d := (some 65)) hD (by kernel_rfl) (by kernel_rfl) rfl (.no 4 54 true (i_6 == (a_1.len : Int)) rfl rfl rfl rfl) rfl (fun hg _ => q_lss (a := x34) (b := x35) rfl (gvb_yes hg) (gvb_yes hg)) ?_
        refine rd_pure (i := 16) (d := (some 66)) hD (by kernel_rfl) (by kernel_rfl) rfl (.free rfl) rfl (fun _ => q_pickGF (a := (i_6 == (a_1.len : Int))) (c := (decide (x34 < x35))) rfl rfl rfl rfl) ?_
        refine rd_nil (by kernel_rfl) ?_
        refine wp_if (b := ((i_6 == (a_1.len : Int)) || (decide (x34 < x35)))) rfl h (fun hb47 h => ?_) (fun hb47 h => ?_)
        · refine wp_seq ?_
          refine wp_text [0, 1, 2, 3, 4] rfl ?_
          refine ro_val (d := (some 67)) rfl (.free rfl) rfl (q_move (v := tSlc.enc (d_2)) rfl rfl) ?_
          refine ro_val (d := (some 68)) rfl (.free rfl) rfl (q_move (v := .int .i64 (k_7)) rfl rfl) ?_
          obtain ⟨a36, ha36, h⟩ := h
          refine ro_val (d := (some 69)) rfl (.free rfl) rfl (q_indexAddr (s := d_2) (i := k_7) rfl Try.underlying31 ok37 rfl rfl ha36) ?_
          obtain ⟨x37, hx37, h⟩ := h
          refine ro_val (d := (some 70)) rfl (.free rfl) rfl (q_load (T := T36) (u := x37) (a := a36) rfl ok37 rfl hx37) ?_
          obtain ⟨w38, hw38, hrw38, h⟩ := st_open h
          refine ro_skip (d := none) rfl (.free rfl) rfl (q_store (T := T36) (u := x37) (a := a10) rfl ok37 rfl rfl hrw38 hw38) ?_
          refine ro_nil ?_
          refine wp_text [0, 1, 2] rfl ?_
          refine ro_val (d := (some 71)) rfl (.free rfl) rfl (q_move (v := .int .i64 (k_7)) rfl rfl) ?_
          refine ro_val (d := (some 72)) rfl (.free rfl) rfl (q_add (a := k_7) (b := (1 : Int)) rfl rfl rfl) ?_
          refine ro_val (d := (some 7)) rfl (.free rfl) rfl (q_assign (v := .int .i64 ((IntKind.i64.wrap (k_7 + (1 : Int))))) rfl rfl) ?_
          refine ro_nil ?_
          exact ⟨(i_6, (IntKind.i64.wrap (k_7 + (1 : Int)))), _, arr (upd_step (upd_step (upd_step (upd_step (upd_step (upd_step rfl rfl) rfl) rfl) rfl) rfl) rfl), h⟩
        · refine wp_seq ?_
          obtain ⟨w39, hw39, h⟩ := dr_open h
          refine wp_drawn 18 mixed rfl (by kernel_rfl) (by intro c a d v w h; cases d <;> exact h) hw39 (fun hD => ?_)
          refine rd_pure (i := 0) (d := (some 73)) hD (by kernel_rfl) (by kernel_rfl) rfl (.free rfl) rfl (fun _ => q_move (v := tSlc.enc (a_1)) rfl rfl) ?_
          refine rd_pure (i := 1) (d := (some 74)) hD (by kernel_rfl) (by kernel_rfl) rfl (.free rfl) rfl (fun _ => q_move (v := .int .i64 (i_6)) rfl rfl) ?_
          obtain ⟨a40, ha40, h⟩ := h
          refine rd_pure (i := 2) (d := (some 75)) hD (by kernel_rfl) (by kernel_rfl) rfl (.free rfl) rfl (fun _ => q_indexAddr (s := a_1) (i := i_6) rfl Try.underlying31 ok37 rfl rfl ha40) ?_
          refine rd_pure (i := 3) (d := (some 76)) hD (by kernel_rfl) (by kernel_rfl) rfl (.free rfl) rfl (fun _ => q_fieldAddr (a := a40) (off := 0) rfl Try.underlying37 rfl rfl ok3 (by decide) rfl) ?_
          refine rd_pure (i := 5) (d := (some 78)) hD (by kernel_rfl) (by kernel_rfl) rfl (.free rfl) rfl (fun _ => q_move (v := tSlc.enc (a_1)) rfl rfl) ?_
          refine rd_pure (i := 6) (d := (some 79)) hD (by kernel_rfl) (by kernel_rfl) rfl (.free rfl) rfl (fun _ => q_move (v := .int .i64 (i_6)) rfl rfl) ?_
          obtain ⟨a41, ha41, h⟩ := h
          refine rd_pure (i := 7) (d := (some 80)) hD (by kernel_rfl) (by kernel_rfl) rfl (.free rfl) rfl (fun _ => q_indexAddr (s := a_1) (i := i_6) rfl Try.underlying31 ok37 rfl rfl ha41) ?_
          refine rd_pure (i := 8) (d := (some 81)) hD (by kernel_rfl) (by kernel_rfl) rfl (.free rfl) rfl (fun _ => q_fieldAddr (a := a41) (off := 1) rfl Try.underlying37 rfl rfl ok2 (by decide) rfl) ?_
          refine rd_pure (i := 10) (d := (some 83)) hD (by kernel_rfl) (by kernel_rfl) rfl (.free rfl) rfl (fun _ => q_move (v := tSlc.enc (d_2)) rfl rfl) ?_
          refine rd_pure (i := 11) (d := (some 84)) hD (by kernel_rfl) (by kernel_rfl) rfl (.free rfl) rfl (fun _ => q_move (v := .int .i64 (k_7)) rfl rfl) ?_
          obtain ⟨a42, ha42, h⟩ := h
          refine rd_pure (i := 12) (d := (some 85)) hD (by kernel_rfl) (by kernel_rfl) rfl (.free rfl) rfl (fun _ => q_indexAddr (s := d_2) (i := k_7) rfl Try.underlying31 ok37 rfl rfl ha42) ?_
          refine rd_pure (i := 13) (d := (some 86)) hD (by kernel_rfl) (by kernel_rfl) rfl (.free rfl) rfl (fun _ => q_fieldAddr (a := a42) (off := 1) rfl Try.underlying37 rfl rfl ok2 (by decide) rfl) ?_
          obtain ⟨x43, hx43, h⟩ := h
          refine rd_read (i := 4) (d := (some 77)) (fun W => (RdAt (tInt .i64) (a40.add 0) W) x43) hD (by kernel_rfl) (by kernel_rfl) rfl (.free rfl) rfl (fun W hr => q_load (T := (tInt .i64)) (u := x43) (a := (a40.add 0)) rfl ok3 rfl hr) hx43 ?_
          obtain ⟨x44, hx44, h⟩ := h
          refine rd_read (i := 9) (d := (some 82)) (fun W => (RdAt (tInt .i64) (a41.add 1) W) x44) hD (by kernel_rfl) (by kernel_rfl) rfl (.free rfl) rfl (fun W hr => q_load (T := (tInt .i64)) (u := x44) (a := (a41.add 1)) rfl ok2 rfl hr) hx44 ?_
          obtain ⟨x45, hx45, h⟩ := h
          refine rd_read (i := 14) (d := (some 87)) (fun W => (RdAt (tInt .i64) (a42.add 1) W) x45) hD (by kernel_rfl) (by kernel_rfl) rfl (.free rfl) rfl (fun W hr => q_load (T := (tInt .i64)) (u := x45) (a := (a42.add 1)) rfl ok2 rfl hr) hx45 ?_
          refine rd_pure (i := 15) (d := (some 88)) hD (by kernel_rfl) (by kernel_rfl) rfl (.free rfl) rfl (fun _ => q_add (a := x44) (b := x45) rfl rfl rfl) ?_
          refine rd_pure (i := 16) (d := (some 89)) hD (by kernel_rfl) (by kernel_rfl) rfl (.free rfl) rfl (fun _ => q_build37_0_1 (v0 := x43) (v1 := (IntKind.i64.wrap (x44 + x45))) rfl rfl rfl) ?_
          refine rd_one (i := 17) (by kernel_rfl) ?_
          obtain ⟨w46, hw46, hrw46, h⟩ := st_open h
          refine po_skip (d := none) rfl (.free rfl) rfl (q_store (T := T36) (u := (⟨x43, (IntKind.i64.wrap (x44 + x45))⟩ : S36)) (a := a10) rfl ok37 rfl rfl hrw46 hw46) ⟨(hk_wait (by kernel_rfl) (hk_wait (by kernel_rfl) (hk_wait (by kernel_rfl) hk_nil))), ?_⟩
          refine rd_nil (by kernel_rfl) ?_
          refine wp_seq ?_
          refine wp_text [0, 1, 2] rfl ?_
          refine ro_val (d := (some 90)) rfl (.free rfl) rfl (q_move (v := .int .i64 (i_6)) rfl rfl) ?_
          refine ro_val (d := (some 91)) rfl (.free rfl) rfl (q_add (a := i_6) (b := (1 : Int)) rfl rfl rfl) ?_
          refine ro_val (d := (some 6)) rfl (.free rfl) rfl (q_assign (v := .int .i64 ((IntKind.i64.wrap (i_6 + (1 : Int))))) rfl rfl) ?_
          refine ro_nil ?_
          refine wp_text [0, 1, 2] rfl ?_
          refine ro_val (d := (some 92)) rfl (.free rfl) rfl (q_move (v := .int .i64 (k_7)) rfl rfl) ?_
          refine ro_val (d := (some 93)) rfl (.free rfl) rfl (q_add (a := k_7) (b := (1 : Int)) rfl rfl rfl) ?_
          refine ro_val (d := (some 7)) rfl (.free rfl) rfl (q_assign (v := .int .i64 ((IntKind.i64.wrap (k_7 + (1 : Int))))) rfl rfl) ?_
          refine ro_nil ?_
          exact ⟨((IntKind.i64.wrap (i_6 + (1 : Int))), (IntKind.i64.wrap (k_7 + (1 : Int)))), _, arr (upd_step (upd_step (upd_step (upd_step (upd_step (upd_step rfl rfl) rfl) rfl) rfl) rfl) rfl), h⟩
  · refine wp_exit ?_
    refine wp_seq ?_
    refine wp_text [0, 1] rfl ?_
    refine ro_val (d := (some 101)) rfl (.free rfl) rfl (q_move (v := tSlc.enc (out_5)) rfl rfl) ?_
    refine ro_val (d := (some 4)) rfl (.free rfl) rfl (q_assign (v := tSlc.enc (out_5)) rfl rfl) ?_
    refine ro_nil ?_
    refine wp_ret ?_
    exact ret_ok rfl (.cons (.tmp (v := tSlc.enc (out_5)) rfl) .nil) ⟨out_5, rfl, h⟩

-- moiety/audit.collect
def F20_j1 (l_2 : Slc) (t_7 : Bool) (w8 : World) (R : ((Option Nat) × Int × Int) → World → Prop) : Prop :=
  if t_7 = true then (
    R ((none : Option Nat), (0 : Int), (180 : Int)) w8
  ) else (
    nwMap w8 fun m10 w9 =>
    nw 43 tMap (none : Option Nat) w9 fun a11 w12 =>
    nw 2 (tInt .i64) (0 : Int) w12 fun a13 w14 =>
    st tMap a11 (some m10) w14 fun w15 =>
    st (tInt .i64) a13 (0 : Int) w15 fun w16 =>
    cl Try.prog 31 [tSlc.enc (l_2), ((Fv.mk (.func 32) (List.toArray []) (List.toArray [.pointer (some a11), .pointer (some a13)]))).enc] (tInt .i64) w16 fun r18 w17 =>
    dr w17 fun w19 =>
    ex (RdAt tMap a11 w19) fun x20 =>
    ex (RdAt (tInt .i64) a13 w19) fun x21 =>
    R (x20, x21, r18) w19
  )
def F20 (at_1 : Int) (l_2 : Slc) (w : World) (R : ((Option Nat) × Int × Int) → World → Prop) : Prop :=
  nw 2 (tInt .i64) at_1 w fun a3 w4 =>
  ex (RdAt (tInt .i64) a3 w4) fun x5 =>
  ex (fun x => (!(decide (x5 < (0 : Int)))) = true → (RdAt (tInt .i64) a3 w4) x) fun x6 =>
  if ((decide (x5 < (0 : Int))) || (decide (x6 > (1125899906842624 : Int)))) = true then (
    F20_j1 l_2 true w4 R
  ) else (
    cl Try.prog 29 [tSlc.enc (l_2), ((Fv.mk (.func 30) (List.toArray []) (List.toArray [.pointer (some a3)]))).enc] tBool w4 fun r25 w24 =>
    F20_j1 l_2 r25 w24 R
  )
theorem F20_ok {at_1 : Int} {l_2 : Slc} {w : World} {R : ((Option Nat) × Int × Int) → World → Prop} (h : F20 at_1 l_2 w R) : cl Try.prog 20 [.int .i64 (at_1), tSlc.enc (l_2)] (tTup3 tMap (tInt .i64) (tInt .i64)) w R := by
  unfold F20 at h
  refine calls_start 28 Try.func20 rfl rfl (Nat.le_of_ble_eq_true rfl) ?_
  refine wp_seq ?_
  refine wp_text [0, 1, 2, 3] rfl ?_
  obtain ⟨a3, w4, ha3, hw4, h⟩ := nw_open h
  refine ro_val (d := (some 2)) rfl (.free rfl) rfl (q_box (u := at_1) rfl ok2 rfl ha3 hw4) ?_
  refine ro_val (d := (some 4)) rfl (.free rfl) rfl (q_assign (v := .map ((none : Option Nat))) rfl rfl) ?_
  refine ro_val (d := (some 5)) rfl (.free rfl) rfl (q_assign (v := .int .i64 ((0 : Int))) rfl rfl) ?_
  refine ro_val (d := (some 6)) rfl (.free rfl) rfl (q_assign (v := .int .i64 ((0 : Int))) rfl rfl) ?_
  refine ro_nil ?_
  refine wp_seq ?_
  refine wp_seq ?_
  refine wp_text [0, 1, 2, 3, 4, 5, 6, 7, 8, 9, 10] rfl ?_
  obtain ⟨x5, hx5, h⟩ := h
  refine ro_val (d := (some 10)) rfl (.free rfl) rfl (q_load (T := (tInt .i64)) (u := x5) (a := a3) rfl ok2 rfl hx5) ?_
  refine ro_val (d := (some 11)) rfl (.free rfl) rfl (q_lss (a := x5) (b := (0 : Int)) rfl rfl rfl) ?_
  refine ro_val (d := (some 12)) rfl (.free rfl) rfl (q_move (v := .bool ((decide (x5 < (0 : Int))))) rfl rfl) ?_
  obtain ⟨x6, hx6, h⟩ := h
  refine ro_gval (g := (!(decide (x5 < (0 : Int))))) (d := (some 13)) rfl (.no 2 12 true (decide (x5 < (0 : Int))) rfl rfl rfl rfl) rfl (fun hg => q_load (T := (tInt .i64)) (u := x6) (a := a3) rfl ok2 rfl (hx6 hg)) ?_
  refine ro_gval (g := (!(decide (x5 < (0 : Int))))) (d := (some 14)) rfl (.no 2 12 true (decide (x5 < (0 : Int))) rfl rfl rfl rfl) rfl (fun hg => q_gtr (a := x6) (b := (1125899906842624 : Int)) rfl (gvb_yes hg) rfl) ?_
  refine ro_val (d := (some 15)) rfl (.free rfl) rfl (q_pickGF (a := (decide (x5 < (0 : Int)))) (c := (decide (x6 > (1125899906842624 : Int)))) rfl rfl rfl rfl) ?_
  refine ro_val (d := (some 16)) rfl (.free rfl) rfl (q_move (v := .bool (((decide (x5 < (0 : Int))) || (decide (x6 > (1125899906842624 : Int)))))) rfl rfl) ?_
  refine ro_join (σ := Bool) (J := fun (s : Bool) w => F20_j1 l_2 s w R) (fr := fun g (s : Bool) => upd (upd (g) 1 (tSlc.enc (l_2))) 20 (.bool (s))) [7, 8, 9, 10] [] ?_ ?_
  · rintro t_7 g w8 h
    unfold F20_j1 at h
    refine ro_nil ?_
    refine wp_if (b := t_7) rfl h (fun hb22 h => ?_) (fun hb22 h => ?_)
    · refine wp_seq ?_
      refine wp_text [0, 1, 2] rfl ?_
      refine ro_val (d := (some 4)) rfl (.free rfl) rfl (q_assign (v := .map ((none : Option Nat))) rfl rfl) ?_
      refine ro_val (d := (some 5)) rfl (.free rfl) rfl (q_assign (v := .int .i64 ((0 : Int))) rfl rfl) ?_
      refine ro_val (d := (some 6)) rfl (.free rfl) rfl (q_assign (v := .int .i64 ((180 : Int))) rfl rfl) ?_
      refine ro_nil ?_
      refine wp_ret ?_
      exact ret_ok rfl (.cons (.tmp (v := .map ((none : Option Nat))) rfl) (.cons (.tmp (v := .int .i64 ((0 : Int))) rfl) (.cons (.tmp (v := .int .i64 ((180 : Int))) rfl) .nil))) ⟨((none : Option Nat), (0 : Int), (180 : Int)), rfl, h⟩
    · refine wp_skip ?_
      refine wp_seq ?_
      refine wp_text [0, 1, 2, 3, 4] rfl ?_
      obtain ⟨m10, w9, hm10, hw9, h⟩ := nwMap_open h
      refine ro_val (d := (some 21)) rfl (.free rfl) rfl (q_makeMap rfl hm10 hw9) ?_
      obtain ⟨a11, w12, ha11, hw12, h⟩ := nw_open h
      refine ro_val (d := (some 7)) rfl (.free rfl) rfl (q_alloc (u := (none : Option Nat)) rfl ok43 inf43 ha11 hw12) ?_
      obtain ⟨a13, w14, ha13, hw14, h⟩ := nw_open h
      refine ro_val (d := (some 8)) rfl (.free rfl) rfl (q_alloc (u := (0 : Int)) rfl ok2 inf2 ha13 hw14) ?_
      obtain ⟨w15, hw15, hrw15, h⟩ := st_open h
      refine ro_skip (d := none) rfl (.free rfl) rfl (q_store (T := tMap) (u := (some m10)) (a := a11) rfl ok43 rfl rfl hrw15 hw15) ?_
      obtain ⟨w16, hw16, hrw16, h⟩ := st_open h
      refine ro_skip (d := none) rfl (.free rfl) rfl (q_store (T := (tInt .i64)) (u := (0 : Int)) (a := a13) rfl ok2 rfl rfl hrw16 hw16) ?_
      refine ro_nil ?_
      refine wp_seq ?_
      refine wp_text [0, 1, 2, 3] rfl ?_
      refine ro_val (d := (some 22)) rfl (.free rfl) rfl (q_move (v := tSlc.enc (l_2)) rfl rfl) ?_
      refine ro_val (d := (some 23)) rfl (.free rfl) rfl (q_makeFunc (fn := .func 32) (va := []) (vc := [.pointer (some a11), .pointer (some a13)]) rfl rfl rfl) ?_
      refine ro_wp rfl (.free rfl) (wp_cl (d := (some 24)) rfl (q_call (k := 31) (l := [tSlc.enc (l_2), ((Fv.mk (.func 32) (List.toArray []) (List.toArray [.pointer (some a11), .pointer (some a13)]))).enc]) rfl ent31 rfl) h ?_)
      intro r18 w17 h
      refine ro_val (d := (some 9)) rfl (.free rfl) rfl (q_assign (v := .int .i64 (r18)) rfl rfl) ?_
      refine ro_nil ?_
      refine wp_seq ?_
      obtain ⟨w19, hw19, h⟩ := dr_open h
      refine wp_drawn 6 mixed rfl (by kernel_rfl) (by intro c a d v w h; cases d <;> exact h) hw19 (fun hD => ?_)
      refine rd_pure (i := 2) (d := (some 27)) hD (by kernel_rfl) (by kernel_rfl) rfl (.free rfl) rfl (fun _ => q_move (v := .int .i64 (r18)) rfl rfl) ?_
      obtain ⟨x20, hx20, h⟩ := h
      refine rd_read (i := 0) (d := (some 25)) (fun W => (RdAt tMap a11 W) x20) hD (by kernel_rfl) (by kernel_rfl) rfl (.free rfl) rfl (fun W hr => q_load (T := tMap) (u := x20) (a := a11) rfl ok43 rfl hr) hx20 ?_
      refine rd_pure (i := 3) (d := (some 4)) hD (by kernel_rfl) (by kernel_rfl) rfl (.free rfl) rfl (fun _ => q_assign (v := .map (x20)) rfl rfl) ?_
      obtain ⟨x21, hx21, h⟩ := h
      refine rd_read (i := 1) (d := (some 26)) (fun W => (RdAt (tInt .i64) a13 W) x21) hD (by kernel_rfl) (by kernel_rfl) rfl (.free rfl) rfl (fun W hr => q_load (T := (tInt .i64)) (u := x21) (a := a13) rfl ok2 rfl hr) hx21 ?_
      refine rd_pure (i := 4) (d := (some 5)) hD (by kernel_rfl) (by kernel_rfl) rfl (.free rfl) rfl (fun _ => q_assign (v := .int .i64 (x21)) rfl rfl) ?_
      refine rd_pure (i := 5) (d := (some 6)) hD (by kernel_rfl) (by kernel_rfl) rfl (.free rfl) rfl (fun _ => q_assign (v := .int .i64 (r18)) rfl rfl) ?_
      refine rd_nil (by kernel_rfl) ?_
      refine wp_ret ?_
      exact ret_ok rfl (.cons (.tmp (v := .map (x20)) rfl) (.cons (.tmp (v := .int .i64 (x21)) rfl) (.cons (.tmp (v := .int .i64 (r18)) rfl) .nil))) ⟨(x20, x21, r18), rfl, h⟩
  · refine ro_if (b := ((decide (x5 < (0 : Int))) || (decide (x6 > (1125899906842624 : Int))))) h (fun hb23 h => ?_) (fun hb23 h => ?_)
    · refine ro_bar (d := (some 17)) rfl (.by_ 6 false 16 ((decide (x5 < (0 : Int))) || (decide (x6 > (1125899906842624 : Int)))) rfl rfl rfl hb23) rfl ?_
      refine ro_bar (d := (some 18)) rfl (.by_ 6 false 16 ((decide (x5 < (0 : Int))) || (decide (x6 > (1125899906842624 : Int)))) rfl rfl rfl hb23) rfl ?_
      refine ro_bar (d := (some 19)) rfl (.by_ 6 false 16 ((decide (x5 < (0 : Int))) || (decide (x6 > (1125899906842624 : Int)))) rfl rfl rfl hb23) rfl ?_
      refine ro_val (d := (some 20)) rfl (.free rfl) rfl (q_pickT (v := .bool (true)) (b := ((decide (x5 < (0 : Int))) || (decide (x6 > (1125899906842624 : Int))))) rfl rfl hb23 rfl) ?_
      refine ro_nil ?_
      exact ⟨(true), _, arr (upd_step (upd_step rfl rfl) rfl), h⟩
    · refine ro_val (d := (some 17)) rfl (.by_ 6 false 16 ((decide (x5 < (0 : Int))) || (decide (x6 > (1125899906842624 : Int)))) rfl rfl rfl hb23) rfl (q_move (v := tSlc.enc (l_2)) rfl rfl) ?_
      refine ro_val (d := (some 18)) rfl (.by_ 6 false 16 ((decide (x5 < (0 : Int))) || (decide (x6 > (1125899906842624 : Int)))) rfl rfl rfl hb23) rfl (q_makeFunc (fn := .func 30) (va := []) (vc := [.pointer (some a3)]) rfl rfl rfl) ?_
      refine ro_wp rfl (.by_ 6 false 16 ((decide (x5 < (0 : Int))) || (decide (x6 > (1125899906842624 : Int)))) rfl rfl rfl hb23) (wp_cl (d := (some 19)) rfl (q_call (k := 29) (l := [tSlc.enc (l_2), ((Fv.mk (.func 30) (List.toArray []) (List.toArray [.pointer (some a3)]))).enc]) rfl ent29 rfl) h ?_)
      intro r25 w24 h
      refine ro_val (d := (some 20)) rfl (.free rfl) rfl (q_pickF (v := .bool (r25)) (b := ((decide (x5 < (0 : Int))) || (decide (x6 > (1125899906842624 : Int))))) rfl rfl hb23 rfl) ?_
      refine ro_nil ?_
      exact ⟨(r25), _, arr (upd_step (upd_step rfl rfl) rfl), h⟩

-- moiety/moietyref17.flat
def F21_l1 (l_1 : Slc) (out_4 : Slc) (i_5 : Int) (w6 : World) (K7 : Slc × Int → World → Prop) (R : Slc → World → Prop) : Prop :=
  if (decide (i_5 < (l_1.len : Int))) = true then (
    ex (IxA l_1 2 i_5) fun a8 =>
    ex (RdAt tSlc (a8.add 1) w6) fun x9 =>
    apd 37 T36 2 16 out_4 x9 w6 fun r11 w10 =>
    K7 (r11, (IntKind.i64.wrap (i_5 + (1 : Int)))) w10
  ) else (
    R out_4 w6
  )
def F21 (l_1 : Slc) (w : World) (R : Slc → World → Prop) : Prop :=
  nwS 37 T36 ([] : List S36) w fun a2 w3 =>
  lp (fun (s : Slc × Int) w K => F21_l1 l_1 s.1 s.2 w K R) ((⟨some a2, 0, 0⟩ : Slc), (0 : Int)) w3
theorem F21_ok {l_1 : Slc} {w : World} {R : Slc → World → Prop} (h : F21 l_1 w R) : cl Try.prog 21 [tSlc.enc (l_1)] tSlc w R := by
  unfold F21 at h
  refine calls_start 20 Try.func21 rfl rfl (Nat.le_of_ble_eq_true rfl) ?_
  refine wp_seq ?_
  refine wp_text [0] rfl ?_
  refine ro_val (d := (some 2)) rfl (.free rfl) rfl (q_assign (v := tSlc.enc ((⟨none, 0, 0⟩ : Slc))) rfl rfl) ?_
  refine ro_nil ?_
  refine wp_seq ?_
  refine wp_text [0, 1] rfl ?_
  obtain ⟨a2, w3, ha2, hw3, h⟩ := nwS_open h
  refine ro_val (d := (some 5)) rfl (.free rfl) rfl (q_row0 (T := T36) rfl Try.underlying31 ok37 inf37 ha2 hw3) ?_
  refine ro_val (d := (some 3)) rfl (.free rfl) rfl (q_assign (v := tSlc.enc ((⟨some a2, 0, 0⟩ : Slc))) rfl rfl) ?_
  refine ro_nil ?_
  refine wp_seq ?_
  refine wp_seq ?_
  refine wp_text [0] rfl ?_
  refine ro_val (d := (some 4)) rfl (.free rfl) rfl (q_assign (v := .int .i64 ((0 : Int))) rfl rfl) ?_
  refine ro_nil ?_
  refine wp_block ?_
  refine loop_at (σ := Slc × Int) (fr := fun g (s : Slc × Int) => upd (upd (upd (g) 0 (tSlc.enc (l_1))) 3 (tSlc.enc (s.1))) 4 (.int .i64 (s.2))) (s0 := ((⟨some a2, 0, 0⟩ : Slc), (0 : Int))) (upd_step (upd_step (upd_step rfl rfl) rfl) rfl) h ?_
  rintro ⟨out_4, i_5⟩ g w6 K7 h
  unfold F21_l1 at h
  refine wp_seq ?_
  refine wp_seq ?_
  refine wp_text [0, 1, 2, 3] rfl ?_
  refine ro_val (d := (some 6)) rfl (.free rfl) rfl (q_move (v := .int .i64 (i_5)) rfl rfl) ?_
  refine ro_val (d := (some 7)) rfl (.free rfl) rfl (q_move (v := tSlc.enc (l_1)) rfl rfl) ?_
  refine ro_val (d := (some 8)) rfl (.free rfl) rfl (q_len (s := l_1) rfl Try.underlying22 rfl) ?_
  refine ro_val (d := (some 9)) rfl (.free rfl) rfl (q_lss (a := i_5) (b := (l_1.len : Int)) rfl rfl rfl) ?_
  refine ro_nil ?_
  refine wp_if (b := (decide (i_5 < (l_1.len : Int)))) rfl h (fun hb12 h => ?_) (fun hb12 h => ?_)
  · refine wp_skip ?_
    refine wp_seq ?_
    refine wp_block ?_
    refine wp_text [0, 1, 2, 3, 4, 5, 6, 7] rfl ?_
    refine ro_val (d := (some 12)) rfl (.free rfl) rfl (q_move (v := tSlc.enc (out_4)) rfl rfl) ?_
    refine ro_val (d := (some 13)) rfl (.free rfl) rfl (q_move (v := tSlc.enc (l_1)) rfl rfl) ?_
    refine ro_val (d := (some 14)) rfl (.free rfl) rfl (q_move (v := .int .i64 (i_5)) rfl rfl) ?_
    obtain ⟨a8, ha8, h⟩ := h
    refine ro_val (d := (some 15)) rfl (.free rfl) rfl (q_indexAddr (s := l_1) (i := i_5) rfl Try.underlying22 ok39 rfl rfl ha8) ?_
    refine ro_val (d := (some 16)) rfl (.free rfl) rfl (q_fieldAddr (a := a8) (off := 1) rfl Try.underlying39 rfl rfl ok31 (by decide) rfl) ?_
    obtain ⟨x9, hx9, h⟩ := h
    refine ro_val (d := (some 17)) rfl (.free rfl) rfl (q_load (T := tSlc) (u := x9) (a := (a8.add 1)) rfl ok31 rfl hx9) ?_
    refine ro_wp rfl (.free rfl) (wp_append (d := (some 18)) (T := T36) rfl rfl Try.underlying31 ⟨_, Try.underlying31⟩ ok37 inf37 rfl rfl (Nat.lt_of_lt_of_le Nat.zero_lt_one (Nat.le_of_ble_eq_true rfl)) rfl rfl h ?_)
    intro r11 w10 h
    refine ro_val (d := (some 3)) rfl (.free rfl) rfl (q_assign (v := tSlc.enc (r11)) rfl rfl) ?_
    refine ro_nil ?_
    refine wp_text [0, 1, 2] rfl ?_
    refine ro_val (d := (some 10)) rfl (.free rfl) rfl (q_move (v := .int .i64 (i_5)) rfl rfl) ?_
    refine ro_val (d := (some 11)) rfl (.free rfl) rfl (q_add (a := i_5) (b := (1 : Int)) rfl rfl rfl) ?_
    refine ro_val (d := (some 4)) rfl (.free rfl) rfl (q_assign (v := .int .i64 ((IntKind.i64.wrap (i_5 + (1 : Int))))) rfl rfl) ?_
    refine ro_nil ?_
    exact ⟨(r11, (IntKind.i64.wrap (i_5 + (1 : Int)))), _, arr (upd_step (upd_step (upd_step rfl rfl) rfl) rfl), h⟩
  · refine wp_exit ?_
    refine wp_seq ?_
    refine wp_text [0, 1] rfl ?_
    refine ro_val (d := (some 19)) rfl (.free rfl) rfl (q_move (v := tSlc.enc (out_4)) rfl rfl) ?_
    refine ro_val (d := (some 2)) rfl (.free rfl) rfl (q_assign (v := tSlc.enc (out_4)) rfl rfl) ?_
    refine ro_nil ?_
    refine wp_ret ?_
    exact ret_ok rfl (.cons (.tmp (v := tSlc.enc (out_4)) rfl) .nil) ⟨out_4, rfl, h⟩

-- moiety/audit.sorted
def F22_l1 (m_1 : (Option Nat)) (r5 : Slc) (l_6 : Slc) (t_7 : Int) (w8 : World) (K9 : Slc × Int → World → Prop) (R : Slc → World → Prop) : Prop :=
  if (decide (t_7 < (r5.len : Int))) = true then (
    ex (IxA r5 1 t_7) fun a10 =>
    ex (RdAt (tInt .i64) a10 w8) fun x11 =>
    ex (MapGet (tInt .i64) .i64 m_1 x11 w8) fun m12 =>
    apl 37 T36 2 16 l_6 [(⟨x11, (m12.getD (0 : Int))⟩ : S36)] w8 fun r16 w15 =>
    K9 (r16, (IntKind.i64.wrap (t_7 + (1 : Int)))) w15
  ) else (
    R l_6 w8
  )
def F22 (m_1 : (Option Nat)) (w : World) (R : Slc → World → Prop) : Prop :=
  cl Try.prog 35 [.map (m_1)] tFun w fun r3 w2 =>
  cl Try.prog 34 [(r3).enc] tSlc w2 fun r5 w4 =>
  lp (fun (s : Slc × Int) w K => F22_l1 m_1 r5 s.1 s.2 w K R) ((⟨none, 0, 0⟩ : Slc), (0 : Int)) w4
theorem F22_ok {m_1 : (Option Nat)} {w : World} {R : Slc → World → Prop} (h : F22 m_1 w R) : cl Try.prog 22 [.map (m_1)] tSlc w R := by
  unfold F22 at h
  refine calls_start 24 Try.func22 rfl rfl (Nat.le_of_ble_eq_true rfl) ?_
  refine wp_seq ?_
  refine wp_text [0] rfl ?_
  refine ro_val (d := (some 2)) rfl (.free rfl) rfl (q_assign (v := tSlc.enc ((⟨none, 0, 0⟩ : Slc))) rfl rfl) ?_
  refine ro_nil ?_
  refine wp_seq ?_
  refine wp_text [0] rfl ?_
  refine ro_val (d := (some 3)) rfl (.free rfl) rfl (q_assign (v := tSlc.enc ((⟨none, 0, 0⟩ : Slc))) rfl rfl) ?_
  refine ro_nil ?_
  refine wp_seq ?_
  refine wp_seq ?_
  refine wp_text [0, 1, 2, 3, 4] rfl ?_
  refine ro_val (d := (some 6)) rfl (.free rfl) rfl (q_move (v := .map (m_1)) rfl rfl) ?_
  refine ro_wp rfl (.free rfl) (wp_cl (d := (some 7)) rfl (q_call (k := 35) (l := [.map (m_1)]) rfl ent35 rfl) h ?_)
  intro r3 w2 h
  refine ro_wp rfl (.free rfl) (wp_cl (d := (some 8)) rfl (q_call (k := 34) (l := [(r3).enc]) rfl ent34 rfl) h ?_)
  intro r5 w4 h
  refine ro_val (d := (some 9)) rfl (.free rfl) rfl (q_len (s := r5) rfl Try.underlying60 rfl) ?_
  refine ro_val (d := (some 10)) rfl (.free rfl) rfl (q_move (v := .int .i64 ((0 : Int))) rfl rfl) ?_
  refine ro_nil ?_
  refine wp_block ?_
  refine loop_at (σ := Slc × Int) (fr := fun g (s : Slc × Int) => upd (upd (upd (upd (upd (g) 0 (.map (m_1))) 8 (tSlc.enc (r5))) 9 (.int .i64 ((r5.len : Int)))) 3 (tSlc.enc (s.1))) 10 (.int .i64 (s.2))) (s0 := ((⟨none, 0, 0⟩ : Slc), (0 : Int))) (upd_step (upd_step (upd_step (upd_step (upd_step rfl rfl) rfl) rfl) rfl) rfl) h ?_
  rintro ⟨l_6, t_7⟩ g w8 K9 h
  unfold F22_l1 at h
  refine wp_seq ?_
  refine wp_text [0] rfl ?_
  refine ro_val (d := (some 11)) rfl (.free rfl) rfl (q_lss (a := t_7) (b := (r5.len : Int)) rfl rfl rfl) ?_
  refine ro_nil ?_
  refine wp_seq ?_
  refine wp_if (b := (decide (t_7 < (r5.len : Int)))) rfl h (fun hb17 h => ?_) (fun hb17 h => ?_)
  · refine wp_skip ?_
    refine wp_seq ?_
    refine wp_block ?_
    refine wp_seq ?_
    refine wp_text [0, 1, 2] rfl ?_
    obtain ⟨a10, ha10, h⟩ := h
    refine ro_val (d := (some 12)) rfl (.free rfl) rfl (q_indexAddr (s := r5) (i := t_7) rfl Try.underlying60 ok3 rfl rfl ha10) ?_
    obtain ⟨x11, hx11, h⟩ := h
    refine ro_val (d := (some 13)) rfl (.free rfl) rfl (q_load (T := (tInt .i64)) (u := x11) (a := a10) rfl ok3 rfl hx11) ?_
    refine ro_val (d := (some 5)) rfl (.free rfl) rfl (q_assign (v := .int .i64 (x11)) rfl rfl) ?_
    refine ro_nil ?_
    refine wp_text [0, 1, 2, 3, 4, 5, 6, 7, 8] rfl ?_
    refine ro_val (d := (some 14)) rfl (.free rfl) rfl (q_move (v := tSlc.enc (l_6)) rfl rfl) ?_
    refine ro_val (d := (some 15)) rfl (.free rfl) rfl (q_move (v := .int .i64 (x11)) rfl rfl) ?_
    refine ro_val (d := (some 16)) rfl (.free rfl) rfl (q_move (v := .map (m_1)) rfl rfl) ?_
    refine ro_val (d := (some 17)) rfl (.free rfl) rfl (q_move (v := .int .i64 (x11)) rfl rfl) ?_
    obtain ⟨m12, hm12, h⟩ := h
    refine ro_val (d := (some 18)) rfl (.free rfl) rfl (q_lookup (T := (tInt .i64)) (r := m_1) (key := x11) (u := m12) (z := (0 : Int)) rfl Try.underlying43 Try.underlying3 (inf2) rfl rfl hm12) ?_
    refine ro_val (d := (some 19)) rfl (.free rfl) rfl (q_build37_0_1 (v0 := x11) (v1 := (m12.getD (0 : Int))) rfl rfl rfl) ?_
    obtain ⟨a13, w14, ha13, hw14, h⟩ := apl_open h
    refine ro_val (d := (some 20)) rfl (.free rfl) rfl (q_rowOf (T := T36) (xs := [(⟨x11, (m12.getD (0 : Int))⟩ : S36)]) rfl Try.underlying31 ok37 inf37 rfl (by decide) (by decide) rfl ha13 hw14) ?_
    refine ro_wp rfl (.free rfl) (wp_append (d := (some 21)) (T := T36) rfl rfl Try.underlying31 ⟨_, Try.underlying31⟩ ok37 inf37 rfl rfl (Nat.lt_of_lt_of_le Nat.zero_lt_one (Nat.le_of_ble_eq_true rfl)) rfl rfl h ?_)
    intro r16 w15 h
    refine ro_val (d := (some 3)) rfl (.free rfl) rfl (q_assign (v := tSlc.enc (r16)) rfl rfl) ?_
    refine ro_nil ?_
    refine wp_text [0, 1] rfl ?_
    refine ro_val (d := (some 22)) rfl (.free rfl) rfl (q_add (a := t_7) (b := (1 : Int)) rfl rfl rfl) ?_
    refine ro_val (d := (some 10)) rfl (.free rfl) rfl (q_move (v := .int .i64 ((IntKind.i64.wrap (t_7 + (1 : Int))))) rfl rfl) ?_
    refine ro_nil ?_
    exact ⟨(r16, (IntKind.i64.wrap (t_7 + (1 : Int)))), _, arr (upd_step (upd_step (upd_step (upd_step (upd_step rfl rfl) rfl) rfl) rfl) rfl), h⟩
  · refine wp_exit ?_
    refine wp_seq ?_
    refine wp_text [0, 1] rfl ?_
    refine ro_val (d := (some 23)) rfl (.free rfl) rfl (q_move (v := tSlc.enc (l_6)) rfl rfl) ?_
    refine ro_val (d := (some 2)) rfl (.free rfl) rfl (q_assign (v := tSlc.enc (l_6)) rfl rfl) ?_
    refine ro_nil ?_
    refine wp_ret ?_
    exact ret_ok rfl (.cons (.tmp (v := tSlc.enc (l_6)) rfl) .nil) ⟨l_6, rfl, h⟩

end Go.Proofs.Ytleehieomicicaa.Cf
