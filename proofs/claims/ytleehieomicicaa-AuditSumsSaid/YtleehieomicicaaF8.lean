/- Characteristic formulae of Go functions, and that they are. Printed by gen.py (own tool). -/
import Derived.Test.YtleehieomicicaaTy
namespace Go.Proofs.Ytleehieomicicaa.Cf
open Go
set_option maxRecDepth 100000
set_option maxHeartbeats 1000000
set_option linter.unusedVariables false
set_option linter.unusedSimpArgs false

-- moiety/moietyref17.Sort
def F23_j2 (i_5 : Int) (out_8 : Slc) (w9 : World) (K7 : Slc × Int → World → Prop) (R : Slc → World → Prop) : Prop :=
  K7 (out_8, (IntKind.i64.wrap (i_5 + (1 : Int)))) w9
def F23_l3 (l_1 : Slc) (out_4 : Slc) (i_5 : Int) (at_10 : Int) (w11 : World) (K7 : Slc × Int → World → Prop) (K12 : Int → World → Prop) (R : Slc → World → Prop) : Prop :=
  dr w11 fun w13 =>
  ex (fun x => (decide (at_10 < (out_4.len : Int))) = true → (IxA out_4 2 at_10) x) fun a14 =>
  ex (fun x => (decide (at_10 < (out_4.len : Int))) = true → (IxA l_1 2 i_5) x) fun a15 =>
  ex (fun x => (decide (at_10 < (out_4.len : Int))) = true → (RdAt (tInt .i64) (a14.add 0) w13) x) fun x16 =>
  ex (fun x => (decide (at_10 < (out_4.len : Int))) = true → (RdAt (tInt .i64) (a15.add 0) w13) x) fun x17 =>
  if ((decide (at_10 < (out_4.len : Int))) && (decide (x16 < x17))) = true then (
    K12 ((IntKind.i64.wrap (at_10 + (1 : Int)))) w13
  ) else (
    dr w13 fun w18 =>
    ex (Sub out_4 2 0 at_10 ((out_4).cap : Int)) fun s19 =>
    ex (IxA l_1 2 i_5) fun a20 =>
    ex (Sub out_4 2 at_10 ((out_4).len : Int) ((out_4).cap : Int)) fun s21 =>
    ex (RdAt T36 a20 w18) fun x22 =>
    bth (
      nwS 37 T36 ([] : List S36) w18 fun a23 w24 =>
      bth (
        apd 37 T36 2 16 (⟨some a23, 0, 0⟩ : Slc) s19 w24 fun r26 w25 =>
        kp ((RdAt T36 a20 w25) x22) <|
        apl 37 T36 2 16 r26 [x22] w25 fun r31 w30 =>
        kp ((RdAt T36 a20 w30) x22) <|
        apd 37 T36 2 16 r31 s21 w30 fun r34 w33 =>
        kp ((RdAt T36 a20 w33) x22) <|
        F23_j2 i_5 r34 w33 K7 R
      ) (
        nwS 37 T36 [x22] w24 fun a36 w37 =>
        apd 37 T36 2 16 (⟨some a23, 0, 0⟩ : Slc) s19 w37 fun r39 w38 =>
        kp ((RdAt T36 a20 w38) x22) <|
        apd 37 T36 2 16 r39 (⟨some a36, 1, 1⟩ : Slc) w38 fun r42 w41 =>
        kp ((RdAt T36 a20 w41) x22) <|
        apd 37 T36 2 16 r42 s21 w41 fun r45 w44 =>
        kp ((RdAt T36 a20 w44) x22) <|
        F23_j2 i_5 r45 w44 K7 R
      )
    ) (
      nwS 37 T36 [x22] w18 fun a47 w48 =>
      nwS 37 T36 ([] : List S36) w48 fun a49 w50 =>
      apd 37 T36 2 16 (⟨some a49, 0, 0⟩ : Slc) s19 w50 fun r52 w51 =>
      kp ((RdAt T36 a20 w51) x22) <|
      apd 37 T36 2 16 r52 (⟨some a47, 1, 1⟩ : Slc) w51 fun r55 w54 =>
      kp ((RdAt T36 a20 w54) x22) <|
      apd 37 T36 2 16 r55 s21 w54 fun r58 w57 =>
      kp ((RdAt T36 a20 w57) x22) <|
      F23_j2 i_5 r58 w57 K7 R
    )
  )
def F23_l1 (l_1 : Slc) (out_4 : Slc) (i_5 : Int) (w6 : World) (K7 : Slc × Int → World → Prop) (R : Slc → World → Prop) : Prop :=
  if (decide (i_5 < (l_1.len : Int))) = true then (
    lp (fun (s : Int) w K => F23_l3 l_1 out_4 i_5 s w K7 K R) ((0 : Int)) w6
  ) else (
    R out_4 w6
  )
def F23 (l_1 : Slc) (w : World) (R : Slc → World → Prop) : Prop :=
  nwS 37 T36 ([] : List S36) w fun a2 w3 =>
  lp (fun (s : Slc × Int) w K => F23_l1 l_1 s.1 s.2 w K R) ((⟨some a2, 0, 0⟩ : Slc), (0 : Int)) w3
theorem F23_ok {l_1 : Slc} {w : World} {R : Slc → World → Prop} (h : F23 l_1 w R) : cl Try.prog 23 [tSlc.enc (l_1)] tSlc w R := by
  unfold F23 at h
  refine calls_start 48 Try.func23 rfl rfl (Nat.le_of_ble_eq_true rfl) ?_
  refine wp_seq ?_
  refine wp_text [0] rfl ?_
  refine ro_val (d := (some 2)) rfl (.free rfl) rfl (q_assign (v := tSlc.enc ((⟨none, 0, 0⟩ : Slc))) rfl rfl) ?_
  refine ro_nil ?_
  refine wp_seq ?_
  refine wp_text [0, 1] rfl ?_
  obtain ⟨a2, w3, ha2, hw3, h⟩ := nwS_open h
  refine ro_val (d := (some 6)) rfl (.free rfl) rfl (q_row0 (T := T36) rfl Try.underlying31 ok37 inf37 ha2 hw3) ?_
  refine ro_val (d := (some 3)) rfl (.free rfl) rfl (q_assign (v := tSlc.enc ((⟨some a2, 0, 0⟩ : Slc))) rfl rfl) ?_
  refine ro_nil ?_
  refine wp_seq ?_
  refine wp_seq ?_
  refine wp_text [0] rfl ?_
  refine ro_val (d := (some 4)) rfl (.free rfl) rfl (q_assign (v := .int .i64 ((0 : Int))) rfl rfl) ?_
  refine ro_nil ?_
  refine wp_block ?_
  refine loop_at (σ := Slc × Int) (fr := fun g (s : Slc × Int) => upd (upd (upd (g) 0 (tSlc.enc (l_1))) 3 (tSlc.enc (s.1))) 4 (.int .i64 (s.2))) (s0 := ((⟨some a2, 0, 0⟩ : Slc), (0 : Int))) (upd_step (upd_step (upd_step rfl rfl) rfl) rfl) h ?_
  rintro ⟨out_4, i_5⟩ g w6 K7 h
  unfold F23_l1 at h
  refine wp_seq ?_
  refine wp_seq ?_
  refine wp_text [0, 1, 2, 3] rfl ?_
  refine ro_val (d := (some 7)) rfl (.free rfl) rfl (q_move (v := .int .i64 (i_5)) rfl rfl) ?_
  refine ro_val (d := (some 8)) rfl (.free rfl) rfl (q_move (v := tSlc.enc (l_1)) rfl rfl) ?_
  refine ro_val (d := (some 9)) rfl (.free rfl) rfl (q_len (s := l_1) rfl Try.underlying31 rfl) ?_
  refine ro_val (d := (some 10)) rfl (.free rfl) rfl (q_lss (a := i_5) (b := (l_1.len : Int)) rfl rfl rfl) ?_
  refine ro_nil ?_
  refine wp_if (b := (decide (i_5 < (l_1.len : Int)))) rfl h (fun hb61 h => ?_) (fun hb61 h => ?_)
  · refine wp_skip ?_
    refine seq_join (σ := Slc) (J := fun (s : Slc) w => F23_j2 i_5 s w K7 R) (fr := fun g (s : Slc) => upd (upd (upd (g) 0 (tSlc.enc (l_1))) 4 (.int .i64 (i_5))) 3 (tSlc.enc (s))) ?_ ?_
    · rintro out_8 g w9 h
      unfold F23_j2 at h
      refine wp_text [0, 1, 2] rfl ?_
      refine ro_val (d := (some 11)) rfl (.free rfl) rfl (q_move (v := .int .i64 (i_5)) rfl rfl) ?_
      refine ro_val (d := (some 12)) rfl (.free rfl) rfl (q_add (a := i_5) (b := (1 : Int)) rfl rfl rfl) ?_
      refine ro_val (d := (some 4)) rfl (.free rfl) rfl (q_assign (v := .int .i64 ((IntKind.i64.wrap (i_5 + (1 : Int))))) rfl rfl) ?_
      refine ro_nil ?_
      exact ⟨(out_8, (IntKind.i64.wrap (i_5 + (1 : Int)))), _, arr (upd_step (upd_step (upd_step rfl rfl) rfl) rfl), h⟩
    · refine wp_block ?_
      refine wp_seq ?_
      refine wp_text [0] rfl ?_
      refine ro_val (d := (some 5)) rfl (.free rfl) rfl (q_assign (v := .int .i64 ((0 : Int))) rfl rfl) ?_
      refine ro_nil ?_
      refine wp_seq ?_
      refine wp_block ?_
      refine loop_at (σ := Int) (fr := fun g (s : Int) => upd (upd (upd (upd (g) 0 (tSlc.enc (l_1))) 3 (tSlc.enc (out_4))) 4 (.int .i64 (i_5))) 5 (.int .i64 (s))) (s0 := ((0 : Int))) (upd_step (upd_step (upd_step (upd_step rfl rfl) rfl) rfl) rfl) h ?_
      rintro at_10 g w11 K12 h
      unfold F23_l3 at h
      refine wp_seq ?_
      refine wp_seq ?_
      obtain ⟨w13, hw13, h⟩ := dr_open h
      refine wp_drawn 17 mixed rfl (by kernel_rfl) (by intro c a d v w h; cases d <;> exact h) hw13 (fun hD => ?_)
      refine rd_pure (i := 0) (d := (some 13)) hD (by kernel_rfl) (by kernel_rfl) rfl (.free rfl) rfl (fun _ => q_move (v := .int .i64 (at_10)) rfl rfl) ?_
      refine rd_pure (i := 1) (d := (some 14)) hD (by kernel_rfl) (by kernel_rfl) rfl (.free rfl) rfl (fun _ => q_move (v := tSlc.enc (out_4)) rfl rfl) ?_
      refine rd_pure (i := 2) (d := (some 15)) hD (by kernel_rfl) (by kernel_rfl) rfl (.free rfl) rfl (fun _ => q_len (s := out_4) rfl Try.underlying31 rfl) ?_
      refine rd_pure (i := 3) (d := (some 16)) hD (by kernel_rfl) (by kernel_rfl) rfl (.free rfl) rfl (fun _ => q_lss (a := at_10) (b := (out_4.len : Int)) rfl rfl rfl) ?_
      refine rd_pure (i := 4) (d := (some 17)) hD (by kernel_rfl) (by kernel_rfl) rfl (.free rfl) rfl (fun _ => q_move (v := .bool ((decide (at_10 < (out_4.len : Int))))) rfl rfl) ?_
      refine rd_gpure (i := 5) (g := (decide (at_10 < (out_4.len : Int)))) (d := (some 18)) hD (by kernel_rfl) (by kernel_rfl) rfl (.yes 4 17 true (decide (at_10 < (out_4.len : Int))) rfl rfl rfl rfl) rfl (fun hg _ => q_move (v := tSlc.enc (out_4)) rfl rfl) ?_
      refine rd_gpure (i := 6) (g := (decide (at_10 < (out_4.len : Int)))) (d := (some 19)) hD (by kernel_rfl) (by kernel_rfl) rfl (.yes 4 17 true (decide (at_10 < (out_4.len : Int))) rfl rfl rfl rfl) rfl (fun hg _ => q_move (v := .int .i64 (at_10)) rfl rfl) ?_
      obtain ⟨a14, ha14, h⟩ := h
      refine rd_gpure (i := 7) (g := (decide (at_10 < (out_4.len : Int)))) (d := (some 20)) hD (by kernel_rfl) (by kernel_rfl) rfl (.yes 4 17 true (decide (at_10 < (out_4.len : Int))) rfl rfl rfl rfl) rfl (fun hg _ => q_indexAddr (s := out_4) (i := at_10) rfl Try.underlying31 ok37 (gvb_yes hg) (gvb_yes hg) (ha14 hg)) ?_
      refine rd_gpure (i := 8) (g := (decide (at_10 < (out_4.len : Int)))) (d := (some 21)) hD (by kernel_rfl) (by kernel_rfl) rfl (.yes 4 17 true (decide (at_10 < (out_4.len : Int))) rfl rfl rfl rfl) rfl (fun hg _ => q_fieldAddr (a := a14) (off := 0) rfl Try.underlying37 rfl rfl ok3 (by decide) (gvb_yes hg)) ?_
      refine rd_gpure (i := 10) (g := (decide (at_10 < (out_4.len : Int)))) (d := (some 23)) hD (by kernel_rfl) (by kernel_rfl) rfl (.yes 4 17 true (decide (at_10 < (out_4.len : Int))) rfl rfl rfl rfl) rfl (fun hg _ => q_move (v := tSlc.enc (l_1)) rfl rfl) ?_
      refine rd_gpure (i := 11) (g := (decide (at_10 < (out_4.len : Int)))) (d := (some 24)) hD (by kernel_rfl) (by kernel_rfl) rfl (.yes 4 17 true (decide (at_10 < (out_4.len : Int))) rfl rfl rfl rfl) rfl (fun hg _ => q_move (v := .int .i64 (i_5)) rfl rfl) ?_
      obtain ⟨a15, ha15, h⟩ := h
      refine rd_gpure (i := 12) (g := (decide (at_10 < (out_4.len : Int)))) (d := (some 25)) hD (by kernel_rfl) (by kernel_rfl) rfl (.yes 4 17 true (decide (at_10 < (out_4.len : Int))) rfl rfl rfl rfl) rfl (fun hg _ => q_indexAddr (s := l_1) (i := i_5) rfl Try.underlying31 ok37 (gvb_yes hg) (gvb_yes hg) (ha15 hg)) ?_
      refine rd_gpure (i := 13) (g := (decide (at_10 < (out_4.len : Int)))) (d := (some 26)) hD (by kernel_rfl) (by kernel_rfl) rfl (.yes 4 17 true (decide (at_10 < (out_4.len : Int))) rfl rfl rfl rfl) rfl (fun hg _ => q_fieldAddr (a := a15) (off := 0) rfl Try.underlying37 rfl rfl ok3 (by decide) (gvb_yes hg)) ?_
      obtain ⟨x16, hx16, h⟩ := h
      refine rd_gread (i := 9) (g := (decide (at_10 < (out_4.len : Int)))) (d := (some 22)) (fun W => (RdAt (tInt .i64) (a14.add 0) W) x16) hD (by kernel_rfl) (by kernel_rfl) rfl (.yes 4 17 true (decide (at_10 < (out_4.len : Int))) rfl rfl rfl rfl) rfl (fun hg W hr => q_load (T := (tInt .i64)) (u := x16) (a := (a14.add 0)) rfl ok3 (gvb_yes hg) hr) hx16 ?_
      obtain ⟨x17, hx17, h⟩ := h
      refine rd_gread (i := 14) (g := (decide (at_10 < (out_4.len : Int)))) (d := (some 27)) (fun W => (RdAt (tInt .i64) (a15.add 0) W) x17) hD (by kernel_rfl) (by kernel_rfl) rfl (.yes 4 17 true (decide (at_10 < (out_4.len : Int))) rfl rfl rfl rfl) rfl (fun hg W hr => q_load (T := (tInt .i64)) (u := x17) (a := (a15.add 0)) rfl ok3 (gvb_yes hg) hr) hx17 ?_
      refine rd_gpure (i := 15) (g := (decide (at_10 < (out_4.len : Int)))) (d := (some 28)) hD (by kernel_rfl) (by kernel_rfl) rfl (.yes 4 17 true (decide (at_10 < (out_4.len : Int))) rfl rfl rfl rfl) rfl (fun hg _ => q_lss (a := x16) (b := x17) rfl (gvb_yes hg) (gvb_yes hg)) ?_
      refine rd_pure (i := 16) (d := (some 29)) hD (by kernel_rfl) (by kernel_rfl) rfl (.free rfl) rfl (fun _ => q_pickGT (a := (decide (at_10 < (out_4.len : Int)))) (b := (decide (x16 < x17))) rfl rfl rfl rfl) ?_
      refine rd_nil (by kernel_rfl) ?_
      refine wp_if (b := ((decide (at_10 < (out_4.len : Int))) && (decide (x16 < x17)))) rfl h (fun hb60 h => ?_) (fun hb60 h => ?_)
      · refine wp_skip ?_
        refine wp_block ?_
        refine wp_text [0, 1, 2] rfl ?_
        refine ro_val (d := (some 30)) rfl (.free rfl) rfl (q_move (v := .int .i64 (at_10)) rfl rfl) ?_
        refine ro_val (d := (some 31)) rfl (.free rfl) rfl (q_add (a := at_10) (b := (1 : Int)) rfl rfl rfl) ?_
        refine ro_val (d := (some 5)) rfl (.free rfl) rfl (q_assign (v := .int .i64 ((IntKind.i64.wrap (at_10 + (1 : Int))))) rfl rfl) ?_
        refine ro_nil ?_
        exact ⟨((IntKind.i64.wrap (at_10 + (1 : Int)))), _, arr (upd_step (upd_step (upd_step (upd_step rfl rfl) rfl) rfl) rfl), h⟩
      · refine wp_exit ?_
        obtain ⟨w18, hw18, h⟩ := dr_open h
        refine wp_drawn 16 mixed rfl (by kernel_rfl) (by intro c a d v w h; cases d <;> exact h) hw18 (fun hD => ?_)
        refine rd_pure (i := 1) (d := (some 33)) hD (by kernel_rfl) (by kernel_rfl) rfl (.free rfl) rfl (fun _ => q_move (v := tSlc.enc (out_4)) rfl rfl) ?_
        refine rd_pure (i := 2) (d := (some 34)) hD (by kernel_rfl) (by kernel_rfl) rfl (.free rfl) rfl (fun _ => q_move (v := .int .i64 (at_10)) rfl rfl) ?_
        obtain ⟨s19, hs19, h⟩ := h
        refine rd_pure (i := 3) (d := (some 35)) hD (by kernel_rfl) (by kernel_rfl) rfl (.free rfl) rfl (fun _ => q_sliceH (s := out_4) (h := at_10) rfl Try.underlying31 ok37 rfl rfl hs19) ?_
        refine rd_pure (i := 5) (d := (some 37)) hD (by kernel_rfl) (by kernel_rfl) rfl (.free rfl) rfl (fun _ => q_move (v := tSlc.enc (l_1)) rfl rfl) ?_
        refine rd_pure (i := 6) (d := (some 38)) hD (by kernel_rfl) (by kernel_rfl) rfl (.free rfl) rfl (fun _ => q_move (v := .int .i64 (i_5)) rfl rfl) ?_
        obtain ⟨a20, ha20, h⟩ := h
        refine rd_pure (i := 7) (d := (some 39)) hD (by kernel_rfl) (by kernel_rfl) rfl (.free rfl) rfl (fun _ => q_indexAddr (s := l_1) (i := i_5) rfl Try.underlying31 ok37 rfl rfl ha20) ?_
        refine rd_pure (i := 11) (d := (some 43)) hD (by kernel_rfl) (by kernel_rfl) rfl (.free rfl) rfl (fun _ => q_move (v := tSlc.enc (out_4)) rfl rfl) ?_
        refine rd_pure (i := 12) (d := (some 44)) hD (by kernel_rfl) (by kernel_rfl) rfl (.free rfl) rfl (fun _ => q_move (v := .int .i64 (at_10)) rfl rfl) ?_
        obtain ⟨s21, hs21, h⟩ := h
        refine rd_pure (i := 13) (d := (some 45)) hD (by kernel_rfl) (by kernel_rfl) rfl (.free rfl) rfl (fun _ => q_sliceL (s := out_4) (l := at_10) rfl Try.underlying31 ok37 rfl rfl hs21) ?_
        obtain ⟨x22, hx22, h⟩ := h
        refine rd_read (i := 8) (d := (some 40)) (fun W => (RdAt T36 a20 W) x22) hD (by kernel_rfl) (by kernel_rfl) rfl (.free rfl) rfl (fun W hr => q_load (T := T36) (u := x22) (a := a20) rfl ok37 rfl hr) hx22 ?_
        obtain ⟨h, h'⟩ := h
        refine rd_two (i := 0) (j := 9) (by kernel_rfl) ?_ ?_
        · clear h'
          obtain ⟨a23, w24, ha23, hw24, h⟩ := nwS_open h
          refine po_val (d := (some 32)) rfl (.free rfl) rfl (q_row0 (T := T36) rfl Try.underlying31 ok37 inf37 ha23 hw24) ⟨(hk_keep (fun h => keep_RdAt hw24 h) hk_nil), ?_⟩
          obtain ⟨h, h'⟩ := h
          refine rd_two (i := 4) (j := 9) (by kernel_rfl) ?_ ?_
          · clear h'
            refine po_wp rfl (.free rfl) (wp_append (d := (some 36)) (T := T36) rfl rfl Try.underlying31 ⟨_, Try.underlying31⟩ ok37 inf37 rfl rfl (Nat.lt_of_lt_of_le Nat.zero_lt_one (Nat.le_of_ble_eq_true rfl)) rfl rfl h ?_)
            intro r26 w25 h
            obtain ⟨hk27, h⟩ := h
            refine ⟨(hk_keep (fun _ => hk27) hk_nil), ?_⟩
            refine rd_one (i := 9) (by kernel_rfl) ?_
            obtain ⟨a28, w29, ha28, hw29, h⟩ := apl_open h
            refine po_val (d := (some 41)) rfl (.free rfl) rfl (q_rowOf (T := T36) (xs := [x22]) rfl Try.underlying31 ok37 inf37 rfl (by decide) (by decide) rfl ha28 hw29) ⟨(hk_wait (by kernel_rfl) hk_nil), ?_⟩
            refine rd_one (i := 10) (by kernel_rfl) ?_
            refine po_wp rfl (.free rfl) (wp_append (d := (some 42)) (T := T36) rfl rfl Try.underlying31 ⟨_, Try.underlying31⟩ ok37 inf37 rfl rfl (Nat.lt_of_lt_of_le Nat.zero_lt_one (Nat.le_of_ble_eq_true rfl)) rfl rfl h ?_)
            intro r31 w30 h
            obtain ⟨hk32, h⟩ := h
            refine ⟨(hk_keep (fun _ => hk32) hk_nil), ?_⟩
            refine rd_one (i := 14) (by kernel_rfl) ?_
            refine po_wp rfl (.free rfl) (wp_append (d := (some 46)) (T := T36) rfl rfl Try.underlying31 ⟨_, Try.underlying31⟩ ok37 inf37 rfl rfl (Nat.lt_of_lt_of_le Nat.zero_lt_one (Nat.le_of_ble_eq_true rfl)) rfl rfl h ?_)
            intro r34 w33 h
            obtain ⟨hk35, h⟩ := h
            refine ⟨(hk_keep (fun _ => hk35) hk_nil), ?_⟩
            refine rd_pure (i := 15) (d := (some 3)) hD (by kernel_rfl) (by kernel_rfl) rfl (.free rfl) rfl (fun _ => q_assign (v := tSlc.enc (r34)) rfl rfl) ?_
            refine rd_nil (by kernel_rfl) ?_
            exact ⟨(r34), _, arr (upd_step (upd_step (upd_step rfl rfl) rfl) rfl), h⟩
          · replace h := h'; clear h'
            obtain ⟨a36, w37, ha36, hw37, h⟩ := nwS_open h
            refine po_val (d := (some 41)) rfl (.free rfl) rfl (q_rowOf (T := T36) (xs := [x22]) rfl Try.underlying31 ok37 inf37 rfl (by decide) (by decide) rfl ha36 hw37) ⟨(hk_wait (by kernel_rfl) hk_nil), ?_⟩
            refine rd_one (i := 4) (by kernel_rfl) ?_
            refine po_wp rfl (.free rfl) (wp_append (d := (some 36)) (T := T36) rfl rfl Try.underlying31 ⟨_, Try.underlying31⟩ ok37 inf37 rfl rfl (Nat.lt_of_lt_of_le Nat.zero_lt_one (Nat.le_of_ble_eq_true rfl)) rfl rfl h ?_)
            intro r39 w38 h
            obtain ⟨hk40, h⟩ := h
            refine ⟨(hk_keep (fun _ => hk40) hk_nil), ?_⟩
            refine rd_one (i := 10) (by kernel_rfl) ?_
            refine po_wp rfl (.free rfl) (wp_append (d := (some 42)) (T := T36) rfl rfl Try.underlying31 ⟨_, Try.underlying31⟩ ok37 inf37 rfl rfl (Nat.lt_of_lt_of_le Nat.zero_lt_one (Nat.le_of_ble_eq_true rfl)) rfl rfl h ?_)
            intro r42 w41 h
            obtain ⟨hk43, h⟩ := h
            refine ⟨(hk_keep (fun _ => hk43) hk_nil), ?_⟩
            refine rd_one (i := 14) (by kernel_rfl) ?_
            refine po_wp rfl (.free rfl) (wp_append (d := (some 46)) (T := T36) rfl rfl Try.underlying31 ⟨_, Try.underlying31⟩ ok37 inf37 rfl rfl (Nat.lt_of_lt_of_le Nat.zero_lt_one (Nat.le_of_ble_eq_true rfl)) rfl rfl h ?_)
            intro r45 w44 h
            obtain ⟨hk46, h⟩ := h
            refine ⟨(hk_keep (fun _ => hk46) hk_nil), ?_⟩
            refine rd_pure (i := 15) (d := (some 3)) hD (by kernel_rfl) (by kernel_rfl) rfl (.free rfl) rfl (fun _ => q_assign (v := tSlc.enc (r45)) rfl rfl) ?_
            refine rd_nil (by kernel_rfl) ?_
            exact ⟨(r45), _, arr (upd_step (upd_step (upd_step rfl rfl) rfl) rfl), h⟩
        · replace h := h'; clear h'
          obtain ⟨a47, w48, ha47, hw48, h⟩ := nwS_open h
          refine po_val (d := (some 41)) rfl (.free rfl) rfl (q_rowOf (T := T36) (xs := [x22]) rfl Try.underlying31 ok37 inf37 rfl (by decide) (by decide) rfl ha47 hw48) ⟨(hk_wait (by kernel_rfl) hk_nil), ?_⟩
          refine rd_one (i := 0) (by kernel_rfl) ?_
          obtain ⟨a49, w50, ha49, hw50, h⟩ := nwS_open h
          refine po_val (d := (some 32)) rfl (.free rfl) rfl (q_row0 (T := T36) rfl Try.underlying31 ok37 inf37 ha49 hw50) ⟨(hk_keep (fun h => keep_RdAt hw50 h) hk_nil), ?_⟩
          refine rd_one (i := 4) (by kernel_rfl) ?_
          refine po_wp rfl (.free rfl) (wp_append (d := (some 36)) (T := T36) rfl rfl Try.underlying31 ⟨_, Try.underlying31⟩ ok37 inf37 rfl rfl (Nat.lt_of_lt_of_le Nat.zero_lt_one (Nat.le_of_ble_eq_true rfl)) rfl rfl h ?_)
          intro r52 w51 h
          obtain ⟨hk53, h⟩ := h
          refine ⟨(hk_keep (fun _ => hk53) hk_nil), ?_⟩
          refine rd_one (i := 10) (by kernel_rfl) ?_
          refine po_wp rfl (.free rfl) (wp_append (d := (some 42)) (T := T36) rfl rfl Try.underlying31 ⟨_, Try.underlying31⟩ ok37 inf37 rfl rfl (Nat.lt_of_lt_of_le Nat.zero_lt_one (Nat.le_of_ble_eq_true rfl)) rfl rfl h ?_)
          intro r55 w54 h
          obtain ⟨hk56, h⟩ := h
          refine ⟨(hk_keep (fun _ => hk56) hk_nil), ?_⟩
          refine rd_one (i := 14) (by kernel_rfl) ?_
          refine po_wp rfl (.free rfl) (wp_append (d := (some 46)) (T := T36) rfl rfl Try.underlying31 ⟨_, Try.underlying31⟩ ok37 inf37 rfl rfl (Nat.lt_of_lt_of_le Nat.zero_lt_one (Nat.le_of_ble_eq_true rfl)) rfl rfl h ?_)
          intro r58 w57 h
          obtain ⟨hk59, h⟩ := h
          refine ⟨(hk_keep (fun _ => hk59) hk_nil), ?_⟩
          refine rd_pure (i := 15) (d := (some 3)) hD (by kernel_rfl) (by kernel_rfl) rfl (.free rfl) rfl (fun _ => q_assign (v := tSlc.enc (r58)) rfl rfl) ?_
          refine rd_nil (by kernel_rfl) ?_
          exact ⟨(r58), _, arr (upd_step (upd_step (upd_step rfl rfl) rfl) rfl), h⟩
  · refine wp_exit ?_
    refine wp_seq ?_
    refine wp_text [0, 1] rfl ?_
    refine ro_val (d := (some 47)) rfl (.free rfl) rfl (q_move (v := tSlc.enc (out_4)) rfl rfl) ?_
    refine ro_val (d := (some 2)) rfl (.free rfl) rfl (q_assign (v := tSlc.enc (out_4)) rfl rfl) ?_
    refine ro_nil ?_
    refine wp_ret ?_
    exact ret_ok rfl (.cons (.tmp (v := tSlc.enc (out_4)) rfl) .nil) ⟨out_4, rfl, h⟩

-- moiety/audit.rising
def F24_l1 (l_1 : Slc) (i_2 : Int) (w3 : World) (K4 : Int → World → Prop) (R : Bool → World → Prop) : Prop :=
  if (decide (i_2 < (l_1.len : Int))) = true then (
    dr w3 fun w5 =>
    ex (IxA l_1 2 (IntKind.i64.wrap (i_2 - (1 : Int)))) fun a6 =>
    ex (IxA l_1 2 i_2) fun a7 =>
    ex (RdAt (tInt .i64) (a6.add 0) w5) fun x8 =>
    ex (RdAt (tInt .i64) (a7.add 0) w5) fun x9 =>
    if (decide (x8 ≥ x9)) = true then (
      R false w5
    ) else (
      K4 ((IntKind.i64.wrap (i_2 + (1 : Int)))) w5
    )
  ) else (
    R true w3
  )
def F24 (l_1 : Slc) (w : World) (R : Bool → World → Prop) : Prop :=
  lp (fun (s : Int) w K => F24_l1 l_1 s w K R) ((1 : Int)) w
theorem F24_ok {l_1 : Slc} {w : World} {R : Bool → World → Prop} (h : F24 l_1 w R) : cl Try.prog 24 [tSlc.enc (l_1)] tBool w R := by
  unfold F24 at h
  refine calls_start 22 Try.func24 rfl rfl (Nat.le_of_ble_eq_true rfl) ?_
  refine wp_seq ?_
  refine wp_text [0] rfl ?_
  refine ro_val (d := (some 2)) rfl (.free rfl) rfl (q_assign (v := .bool (false)) rfl rfl) ?_
  refine ro_nil ?_
  refine wp_seq ?_
  refine wp_seq ?_
  refine wp_text [0] rfl ?_
  refine ro_val (d := (some 3)) rfl (.free rfl) rfl (q_assign (v := .int .i64 ((1 : Int))) rfl rfl) ?_
  refine ro_nil ?_
  refine wp_block ?_
  refine loop_at (σ := Int) (fr := fun g (s : Int) => upd (upd (g) 0 (tSlc.enc (l_1))) 3 (.int .i64 (s))) (s0 := ((1 : Int))) (upd_step (upd_step rfl rfl) rfl) h ?_
  rintro i_2 g w3 K4 h
  unfold F24_l1 at h
  refine wp_seq ?_
  refine wp_seq ?_
  refine wp_text [0, 1, 2, 3] rfl ?_
  refine ro_val (d := (some 4)) rfl (.free rfl) rfl (q_move (v := .int .i64 (i_2)) rfl rfl) ?_
  refine ro_val (d := (some 5)) rfl (.free rfl) rfl (q_move (v := tSlc.enc (l_1)) rfl rfl) ?_
  refine ro_val (d := (some 6)) rfl (.free rfl) rfl (q_len (s := l_1) rfl Try.underlying31 rfl) ?_
  refine ro_val (d := (some 7)) rfl (.free rfl) rfl (q_lss (a := i_2) (b := (l_1.len : Int)) rfl rfl rfl) ?_
  refine ro_nil ?_
  refine wp_if (b := (decide (i_2 < (l_1.len : Int)))) rfl h (fun hb11 h => ?_) (fun hb11 h => ?_)
  · refine wp_skip ?_
    refine wp_seq ?_
    refine wp_block ?_
    refine wp_seq ?_
    obtain ⟨w5, hw5, h⟩ := dr_open h
    refine wp_drawn 12 mixed rfl (by kernel_rfl) (by intro c a d v w h; cases d <;> exact h) hw5 (fun hD => ?_)
    refine rd_pure (i := 0) (d := (some 10)) hD (by kernel_rfl) (by kernel_rfl) rfl (.free rfl) rfl (fun _ => q_move (v := tSlc.enc (l_1)) rfl rfl) ?_
    refine rd_pure (i := 1) (d := (some 11)) hD (by kernel_rfl) (by kernel_rfl) rfl (.free rfl) rfl (fun _ => q_move (v := .int .i64 (i_2)) rfl rfl) ?_
    refine rd_pure (i := 2) (d := (some 12)) hD (by kernel_rfl) (by kernel_rfl) rfl (.free rfl) rfl (fun _ => q_sub (a := i_2) (b := (1 : Int)) rfl rfl rfl) ?_
    obtain ⟨a6, ha6, h⟩ := h
    refine rd_pure (i := 3) (d := (some 13)) hD (by kernel_rfl) (by kernel_rfl) rfl (.free rfl) rfl (fun _ => q_indexAddr (s := l_1) (i := (IntKind.i64.wrap (i_2 - (1 : Int)))) rfl Try.underlying31 ok37 rfl rfl ha6) ?_
    refine rd_pure (i := 4) (d := (some 14)) hD (by kernel_rfl) (by kernel_rfl) rfl (.free rfl) rfl (fun _ => q_fieldAddr (a := a6) (off := 0) rfl Try.underlying37 rfl rfl ok3 (by decide) rfl) ?_
    refine rd_pure (i := 6) (d := (some 16)) hD (by kernel_rfl) (by kernel_rfl) rfl (.free rfl) rfl (fun _ => q_move (v := tSlc.enc (l_1)) rfl rfl) ?_
    refine rd_pure (i := 7) (d := (some 17)) hD (by kernel_rfl) (by kernel_rfl) rfl (.free rfl) rfl (fun _ => q_move (v := .int .i64 (i_2)) rfl rfl) ?_
    obtain ⟨a7, ha7, h⟩ := h
    refine rd_pure (i := 8) (d := (some 18)) hD (by kernel_rfl) (by kernel_rfl) rfl (.free rfl) rfl (fun _ => q_indexAddr (s := l_1) (i := i_2) rfl Try.underlying31 ok37 rfl rfl ha7) ?_
    refine rd_pure (i := 9) (d := (some 19)) hD (by kernel_rfl) (by kernel_rfl) rfl (.free rfl) rfl (fun _ => q_fieldAddr (a := a7) (off := 0) rfl Try.underlying37 rfl rfl ok3 (by decide) rfl) ?_
    obtain ⟨x8, hx8, h⟩ := h
    refine rd_read (i := 5) (d := (some 15)) (fun W => (RdAt (tInt .i64) (a6.add 0) W) x8) hD (by kernel_rfl) (by kernel_rfl) rfl (.free rfl) rfl (fun W hr => q_load (T := (tInt .i64)) (u := x8) (a := (a6.add 0)) rfl ok3 rfl hr) hx8 ?_
    obtain ⟨x9, hx9, h⟩ := h
    refine rd_read (i := 10) (d := (some 20)) (fun W => (RdAt (tInt .i64) (a7.add 0) W) x9) hD (by kernel_rfl) (by kernel_rfl) rfl (.free rfl) rfl (fun W hr => q_load (T := (tInt .i64)) (u := x9) (a := (a7.add 0)) rfl ok3 rfl hr) hx9 ?_
    refine rd_pure (i := 11) (d := (some 21)) hD (by kernel_rfl) (by kernel_rfl) rfl (.free rfl) rfl (fun _ => q_geq (a := x8) (b := x9) rfl rfl rfl) ?_
    refine rd_nil (by kernel_rfl) ?_
    refine wp_if (b := (decide (x8 ≥ x9))) rfl h (fun hb10 h => ?_) (fun hb10 h => ?_)
    · refine wp_seq ?_
      refine wp_text [0] rfl ?_
      refine ro_val (d := (some 2)) rfl (.free rfl) rfl (q_assign (v := .bool (false)) rfl rfl) ?_
      refine ro_nil ?_
      refine wp_ret ?_
      exact ret_ok rfl (.cons (.tmp (v := .bool (false)) rfl) .nil) ⟨false, rfl, h⟩
    · refine wp_skip ?_
      refine wp_text [0, 1, 2] rfl ?_
      refine ro_val (d := (some 8)) rfl (.free rfl) rfl (q_move (v := .int .i64 (i_2)) rfl rfl) ?_
      refine ro_val (d := (some 9)) rfl (.free rfl) rfl (q_add (a := i_2) (b := (1 : Int)) rfl rfl rfl) ?_
      refine ro_val (d := (some 3)) rfl (.free rfl) rfl (q_assign (v := .int .i64 ((IntKind.i64.wrap (i_2 + (1 : Int))))) rfl rfl) ?_
      refine ro_nil ?_
      exact ⟨((IntKind.i64.wrap (i_2 + (1 : Int)))), _, arr (upd_step (upd_step rfl rfl) rfl), h⟩
  · refine wp_exit ?_
    refine wp_seq ?_
    refine wp_text [0] rfl ?_
    refine ro_val (d := (some 2)) rfl (.free rfl) rfl (q_assign (v := .bool (true)) rfl rfl) ?_
    refine ro_nil ?_
    refine wp_ret ?_
    exact ret_ok rfl (.cons (.tmp (v := .bool (true)) rfl) .nil) ⟨true, rfl, h⟩

-- moiety/audit.may
def F25 (l_1 : Slc) (w : World) (R : Bool → World → Prop) : Prop :=
  cl Try.prog 36 [tSlc.enc (l_1), ((Fv.mk (.func 37) #[] #[])).enc] tBool w fun r3 w2 =>
  R (!r3) w2
theorem F25_ok {l_1 : Slc} {w : World} {R : Bool → World → Prop} (h : F25 l_1 w R) : cl Try.prog 25 [tSlc.enc (l_1)] tBool w R := by
  unfold F25 at h
  refine calls_start 6 Try.func25 rfl rfl (Nat.le_of_ble_eq_true rfl) ?_
  refine wp_seq ?_
  refine wp_text [0] rfl ?_
  refine ro_val (d := (some 2)) rfl (.free rfl) rfl (q_assign (v := .bool (false)) rfl rfl) ?_
  refine ro_nil ?_
  refine wp_seq ?_
  refine wp_text [0, 1, 2, 3] rfl ?_
  refine ro_val (d := (some 3)) rfl (.free rfl) rfl (q_move (v := tSlc.enc (l_1)) rfl rfl) ?_
  refine ro_wp rfl (.free rfl) (wp_cl (d := (some 4)) rfl (q_call (k := 36) (l := [tSlc.enc (l_1), ((Fv.mk (.func 37) #[] #[])).enc]) rfl ent36 rfl) h ?_)
  intro r3 w2 h
  refine ro_val (d := (some 5)) rfl (.free rfl) rfl (q_not (b := r3) rfl rfl) ?_
  refine ro_val (d := (some 2)) rfl (.free rfl) rfl (q_assign (v := .bool ((!r3))) rfl rfl) ?_
  refine ro_nil ?_
  refine wp_ret ?_
  exact ret_ok rfl (.cons (.tmp (v := .bool ((!r3))) rfl) .nil) ⟨(!r3), rfl, h⟩

-- moiety/audit.Diff$1
def F27 (t_1 : Int) (v_2 : Int) (w : World) (R : Bool → World → Prop) : Prop :=
  R (v_2 == (0 : Int)) w
theorem F27_ok {t_1 : Int} {v_2 : Int} {w : World} {R : Bool → World → Prop} (h : F27 t_1 v_2 w R) : cl Try.prog 27 [.int .i64 (t_1), .int .i64 (v_2)] tBool w R := by
  unfold F27 at h
  refine calls_start 7 Try.func27 rfl rfl (Nat.le_of_ble_eq_true rfl) ?_
  refine wp_seq ?_
  refine wp_text [0] rfl ?_
  refine ro_val (d := (some 4)) rfl (.free rfl) rfl (q_assign (v := .bool (false)) rfl rfl) ?_
  refine ro_nil ?_
  refine wp_seq ?_
  refine wp_text [0, 1, 2] rfl ?_
  refine ro_val (d := (some 5)) rfl (.free rfl) rfl (q_move (v := .int .i64 (v_2)) rfl rfl) ?_
  refine ro_val (d := (some 6)) rfl (.free rfl) rfl (q_eql (a := v_2) (b := (0 : Int)) rfl rfl rfl) ?_
  refine ro_val (d := (some 4)) rfl (.free rfl) rfl (q_assign (v := .bool ((v_2 == (0 : Int)))) rfl rfl) ?_
  refine ro_nil ?_
  refine wp_ret ?_
  exact ret_ok rfl (.cons (.tmp (v := .bool ((v_2 == (0 : Int)))) rfl) .nil) ⟨(v_2 == (0 : Int)), rfl, h⟩

-- moiety/moietyref17.find
def F28_l1 (l_1 : Slc) (key_2 : Int) (i_3 : Int) (w4 : World) (K5 : Int → World → Prop) (R : Int → World → Prop) : Prop :=
  if (decide (i_3 < (l_1.len : Int))) = true then (
    ex (IxA l_1 2 i_3) fun a6 =>
    ex (RdAt (tInt .i64) (a6.add 0) w4) fun x7 =>
    if (x7 == key_2) = true then (
      ex (IxA l_1 2 i_3) fun a8 =>
      ex (RdAt (tInt .i64) (a8.add 1) w4) fun x9 =>
      R x9 w4
    ) else (
      K5 ((IntKind.i64.wrap (i_3 + (1 : Int)))) w4
    )
  ) else (
    R (0 : Int) w4
  )
def F28 (l_1 : Slc) (key_2 : Int) (w : World) (R : Int → World → Prop) : Prop :=
  lp (fun (s : Int) w K => F28_l1 l_1 key_2 s w K R) ((0 : Int)) w
theorem F28_ok {l_1 : Slc} {key_2 : Int} {w : World} {R : Int → World → Prop} (h : F28 l_1 key_2 w R) : cl Try.prog 28 [tSlc.enc (l_1), .int .i64 (key_2)] (tInt .i64) w R := by
  unfold F28 at h
  refine calls_start 24 Try.func28 rfl rfl (Nat.le_of_ble_eq_true rfl) ?_
  refine wp_seq ?_
  refine wp_text [0] rfl ?_
  refine ro_val (d := (some 4)) rfl (.free rfl) rfl (q_assign (v := .int .i64 ((0 : Int))) rfl rfl) ?_
  refine ro_nil ?_
  refine wp_seq ?_
  refine wp_seq ?_
  refine wp_text [0] rfl ?_
  refine ro_val (d := (some 5)) rfl (.free rfl) rfl (q_assign (v := .int .i64 ((0 : Int))) rfl rfl) ?_
  refine ro_nil ?_
  refine wp_block ?_
  refine loop_at (σ := Int) (fr := fun g (s : Int) => upd (upd (upd (g) 0 (tSlc.enc (l_1))) 1 (.int .i64 (key_2))) 5 (.int .i64 (s))) (s0 := ((0 : Int))) (upd_step (upd_step (upd_step rfl rfl) rfl) rfl) h ?_
  rintro i_3 g w4 K5 h
  unfold F28_l1 at h
  refine wp_seq ?_
  refine wp_seq ?_
  refine wp_text [0, 1, 2, 3] rfl ?_
  refine ro_val (d := (some 6)) rfl (.free rfl) rfl (q_move (v := .int .i64 (i_3)) rfl rfl) ?_
  refine ro_val (d := (some 7)) rfl (.free rfl) rfl (q_move (v := tSlc.enc (l_1)) rfl rfl) ?_
  refine ro_val (d := (some 8)) rfl (.free rfl) rfl (q_len (s := l_1) rfl Try.underlying31 rfl) ?_
  refine ro_val (d := (some 9)) rfl (.free rfl) rfl (q_lss (a := i_3) (b := (l_1.len : Int)) rfl rfl rfl) ?_
  refine ro_nil ?_
  refine wp_if (b := (decide (i_3 < (l_1.len : Int)))) rfl h (fun hb11 h => ?_) (fun hb11 h => ?_)
  · refine wp_skip ?_
    refine wp_seq ?_
    refine wp_block ?_
    refine wp_seq ?_
    refine wp_text [0, 1, 2, 3, 4, 5, 6] rfl ?_
    refine ro_val (d := (some 12)) rfl (.free rfl) rfl (q_move (v := tSlc.enc (l_1)) rfl rfl) ?_
    refine ro_val (d := (some 13)) rfl (.free rfl) rfl (q_move (v := .int .i64 (i_3)) rfl rfl) ?_
    obtain ⟨a6, ha6, h⟩ := h
    refine ro_val (d := (some 14)) rfl (.free rfl) rfl (q_indexAddr (s := l_1) (i := i_3) rfl Try.underlying31 ok37 rfl rfl ha6) ?_
    refine ro_val (d := (some 15)) rfl (.free rfl) rfl (q_fieldAddr (a := a6) (off := 0) rfl Try.underlying37 rfl rfl ok3 (by decide) rfl) ?_
    obtain ⟨x7, hx7, h⟩ := h
    refine ro_val (d := (some 16)) rfl (.free rfl) rfl (q_load (T := (tInt .i64)) (u := x7) (a := (a6.add 0)) rfl ok3 rfl hx7) ?_
    refine ro_val (d := (some 17)) rfl (.free rfl) rfl (q_move (v := .int .i64 (key_2)) rfl rfl) ?_
    refine ro_val (d := (some 18)) rfl (.free rfl) rfl (q_eql (a := x7) (b := key_2) rfl rfl rfl) ?_
    refine ro_nil ?_
    refine wp_if (b := (x7 == key_2)) rfl h (fun hb10 h => ?_) (fun hb10 h => ?_)
    · refine wp_seq ?_
      refine wp_text [0, 1, 2, 3, 4, 5] rfl ?_
      refine ro_val (d := (some 19)) rfl (.free rfl) rfl (q_move (v := tSlc.enc (l_1)) rfl rfl) ?_
      refine ro_val (d := (some 20)) rfl (.free rfl) rfl (q_move (v := .int .i64 (i_3)) rfl rfl) ?_
      obtain ⟨a8, ha8, h⟩ := h
      refine ro_val (d := (some 21)) rfl (.free rfl) rfl (q_indexAddr (s := l_1) (i := i_3) rfl Try.underlying31 ok37 rfl rfl ha8) ?_
      refine ro_val (d := (some 22)) rfl (.free rfl) rfl (q_fieldAddr (a := a8) (off := 1) rfl Try.underlying37 rfl rfl ok2 (by decide) rfl) ?_
      obtain ⟨x9, hx9, h⟩ := h
      refine ro_val (d := (some 23)) rfl (.free rfl) rfl (q_load (T := (tInt .i64)) (u := x9) (a := (a8.add 1)) rfl ok2 rfl hx9) ?_
      refine ro_val (d := (some 4)) rfl (.free rfl) rfl (q_assign (v := .int .i64 (x9)) rfl rfl) ?_
      refine ro_nil ?_
      refine wp_ret ?_
      exact ret_ok rfl (.cons (.tmp (v := .int .i64 (x9)) rfl) .nil) ⟨x9, rfl, h⟩
    · refine wp_skip ?_
      refine wp_text [0, 1, 2] rfl ?_
      refine ro_val (d := (some 10)) rfl (.free rfl) rfl (q_move (v := .int .i64 (i_3)) rfl rfl) ?_
      refine ro_val (d := (some 11)) rfl (.free rfl) rfl (q_add (a := i_3) (b := (1 : Int)) rfl rfl rfl) ?_
      refine ro_val (d := (some 5)) rfl (.free rfl) rfl (q_assign (v := .int .i64 ((IntKind.i64.wrap (i_3 + (1 : Int))))) rfl rfl) ?_
      refine ro_nil ?_
      exact ⟨((IntKind.i64.wrap (i_3 + (1 : Int)))), _, arr (upd_step (upd_step (upd_step rfl rfl) rfl) rfl), h⟩
  · refine wp_exit ?_
    refine wp_seq ?_
    refine wp_text [0] rfl ?_
    refine ro_val (d := (some 4)) rfl (.free rfl) rfl (q_assign (v := .int .i64 ((0 : Int))) rfl rfl) ?_
    refine ro_nil ?_
    refine wp_ret ?_
    exact ret_ok rfl (.cons (.tmp (v := .int .i64 ((0 : Int))) rfl) .nil) ⟨(0 : Int), rfl, h⟩

-- slices.ContainsFunc[[]moiety/api.Report,moiety/api.Report]
def F29 (s_1 : Slc) (f_2 : Fv) (w : World) (R : Bool → World → Prop) : Prop :=
  cl Try.prog 38 [tSlc.enc (s_1), (f_2).enc] (tInt .i64) w fun r4 w3 =>
  R (decide (r4 ≥ (0 : Int))) w3
theorem F29_ok {s_1 : Slc} {f_2 : Fv} {w : World} {R : Bool → World → Prop} (h : F29 s_1 f_2 w R) : cl Try.prog 29 [tSlc.enc (s_1), (f_2).enc] tBool w R := by
  unfold F29 at h
  refine calls_start 9 Try.func29 rfl rfl (Nat.le_of_ble_eq_true rfl) ?_
  refine wp_seq ?_
  refine wp_text [0] rfl ?_
  refine ro_val (d := (some 4)) rfl (.free rfl) rfl (q_assign (v := .bool (false)) rfl rfl) ?_
  refine ro_nil ?_
  refine wp_seq ?_
  refine wp_text [0, 1, 2, 3, 4] rfl ?_
  refine ro_val (d := (some 5)) rfl (.free rfl) rfl (q_move (v := tSlc.enc (s_1)) rfl rfl) ?_
  refine ro_val (d := (some 6)) rfl (.free rfl) rfl (q_move (v := (f_2).enc) rfl rfl) ?_
  refine ro_wp rfl (.free rfl) (wp_cl (d := (some 7)) rfl (q_call (k := 38) (l := [tSlc.enc (s_1), (f_2).enc]) rfl ent38 rfl) h ?_)
  intro r4 w3 h
  refine ro_val (d := (some 8)) rfl (.free rfl) rfl (q_geq (a := r4) (b := (0 : Int)) rfl rfl rfl) ?_
  refine ro_val (d := (some 4)) rfl (.free rfl) rfl (q_assign (v := .bool ((decide (r4 ≥ (0 : Int))))) rfl rfl) ?_
  refine ro_nil ?_
  refine wp_ret ?_
  exact ret_ok rfl (.cons (.tmp (v := .bool ((decide (r4 ≥ (0 : Int))))) rfl) .nil) ⟨(decide (r4 ≥ (0 : Int))), rfl, h⟩

-- moiety/audit.collect$1
def F30 (r_1 : S38) (t_2 : Addr) (w : World) (R : Bool → World → Prop) : Prop :=
  nw 39 T38 r_1 w fun a3 w4 =>
  ex (RdAt (tInt .i64) (a3.add 0) w4) fun x5 =>
  ex (RdAt (tInt .i64) t_2 w4) fun x6 =>
  R (x5 != x6) w4
theorem F30_ok {r_1 : S38} {t_2 : Addr} {w : World} {R : Bool → World → Prop} (h : F30 r_1 t_2 w R) : cl Try.prog 30 [T38.enc (r_1), .pointer (some t_2)] tBool w R := by
  unfold F30 at h
  refine calls_start 8 Try.func30 rfl rfl (Nat.le_of_ble_eq_true rfl) ?_
  refine wp_seq ?_
  refine wp_text [0, 1] rfl ?_
  obtain ⟨a3, w4, ha3, hw4, h⟩ := nw_open h
  refine ro_val (d := (some 2)) rfl (.free rfl) rfl (q_box (u := r_1) rfl ok39 rfl ha3 hw4) ?_
  refine ro_val (d := (some 3)) rfl (.free rfl) rfl (q_assign (v := .bool (false)) rfl rfl) ?_
  refine ro_nil ?_
  refine wp_seq ?_
  refine wp_text [0, 1, 2, 3, 4] rfl ?_
  refine ro_val (d := (some 4)) rfl (.free rfl) rfl (q_fieldAddr (a := a3) (off := 0) rfl Try.underlying39 rfl rfl ok2 (by decide) rfl) ?_
  obtain ⟨x5, hx5, h⟩ := h
  refine ro_val (d := (some 5)) rfl (.free rfl) rfl (q_load (T := (tInt .i64)) (u := x5) (a := (a3.add 0)) rfl ok2 rfl hx5) ?_
  obtain ⟨x6, hx6, h⟩ := h
  refine ro_val (d := (some 6)) rfl (.free rfl) rfl (q_load (T := (tInt .i64)) (u := x6) (a := t_2) rfl ok2 rfl hx6) ?_
  refine ro_val (d := (some 7)) rfl (.free rfl) rfl (q_neq (a := x5) (b := x6) rfl rfl rfl) ?_
  refine ro_val (d := (some 3)) rfl (.free rfl) rfl (q_assign (v := .bool ((x5 != x6))) rfl rfl) ?_
  refine ro_nil ?_
  refine wp_ret ?_
  exact ret_ok rfl (.cons (.tmp (v := .bool ((x5 != x6))) rfl) .nil) ⟨(x5 != x6), rfl, h⟩

-- moiety/audit.all
def F31_l2 (take_2 : Fv) (t_3 : Int) (x11 : Slc) (t_12 : Int) (w13 : World) (K5 : Int → World → Prop) (K14 : Int → World → Prop) (R : Int → World → Prop) : Prop :=
  if (decide (t_12 < (x11.len : Int))) = true then (
    ex (IxA x11 2 t_12) fun a15 =>
    ex (RdAt T36 a15 w13) fun x16 =>
    nw 37 T36 Z36 w13 fun a17 w18 =>
    st T36 a17 x16 w18 fun w19 =>
    ex (RdAt T36 a17 w19) fun x20 =>
    clv Try.prog take_2 [T36.enc (x20)] (tInt .i64) w19 fun r22 w21 =>
    if (r22 != (0 : Int)) = true then (
      R r22 w21
    ) else (
      K14 ((IntKind.i64.wrap (t_12 + (1 : Int)))) w21
    )
  ) else (
    K5 ((IntKind.i64.wrap (t_3 + (1 : Int)))) w13
  )
def F31_l1 (l_1 : Slc) (take_2 : Fv) (t_3 : Int) (w4 : World) (K5 : Int → World → Prop) (R : Int → World → Prop) : Prop :=
  if (decide (t_3 < (l_1.len : Int))) = true then (
    ex (IxA l_1 2 t_3) fun a6 =>
    ex (RdAt T38 a6 w4) fun x7 =>
    nw 39 T38 Z38 w4 fun a8 w9 =>
    st T38 a8 x7 w9 fun w10 =>
    ex (RdAt tSlc (a8.add 1) w10) fun x11 =>
    lp (fun (s : Int) w K => F31_l2 take_2 t_3 x11 s w K5 K R) ((0 : Int)) w10
  ) else (
    R (0 : Int) w4
  )
def F31 (l_1 : Slc) (take_2 : Fv) (w : World) (R : Int → World → Prop) : Prop :=
  lp (fun (s : Int) w K => F31_l1 l_1 take_2 s w K R) ((0 : Int)) w
theorem F31_ok {l_1 : Slc} {take_2 : Fv} {w : World} {R : Int → World → Prop} (h : F31 l_1 take_2 w R) : cl Try.prog 31 [tSlc.enc (l_1), (take_2).enc] (tInt .i64) w R := by
  unfold F31 at h
  refine calls_start 31 Try.func31 rfl rfl (Nat.le_of_ble_eq_true rfl) ?_
  refine wp_seq ?_
  refine wp_text [0] rfl ?_
  refine ro_val (d := (some 4)) rfl (.free rfl) rfl (q_assign (v := .int .i64 ((0 : Int))) rfl rfl) ?_
  refine ro_nil ?_
  refine wp_seq ?_
  refine wp_seq ?_
  refine wp_text [0, 1, 2] rfl ?_
  refine ro_val (d := (some 10)) rfl (.free rfl) rfl (q_move (v := tSlc.enc (l_1)) rfl rfl) ?_
  refine ro_val (d := (some 11)) rfl (.free rfl) rfl (q_len (s := l_1) rfl Try.underlying22 rfl) ?_
  refine ro_val (d := (some 12)) rfl (.free rfl) rfl (q_move (v := .int .i64 ((0 : Int))) rfl rfl) ?_
  refine ro_nil ?_
  refine wp_block ?_
  refine loop_at (σ := Int) (fr := fun g (s : Int) => upd (upd (upd (upd (g) 1 ((take_2).enc)) 10 (tSlc.enc (l_1))) 11 (.int .i64 ((l_1.len : Int)))) 12 (.int .i64 (s))) (s0 := ((0 : Int))) (upd_step (upd_step (upd_step (upd_step rfl rfl) rfl) rfl) rfl) h ?_
  rintro t_3 g w4 K5 h
  unfold F31_l1 at h
  refine wp_seq ?_
  refine wp_text [0] rfl ?_
  refine ro_val (d := (some 13)) rfl (.free rfl) rfl (q_lss (a := t_3) (b := (l_1.len : Int)) rfl rfl rfl) ?_
  refine ro_nil ?_
  refine wp_seq ?_
  refine wp_if (b := (decide (t_3 < (l_1.len : Int)))) rfl h (fun hb25 h => ?_) (fun hb25 h => ?_)
  · refine wp_skip ?_
    refine wp_seq ?_
    refine wp_block ?_
    refine wp_seq ?_
    refine wp_text [0, 1, 2, 3] rfl ?_
    obtain ⟨a6, ha6, h⟩ := h
    refine ro_val (d := (some 14)) rfl (.free rfl) rfl (q_indexAddr (s := l_1) (i := t_3) rfl Try.underlying22 ok39 rfl rfl ha6) ?_
    obtain ⟨x7, hx7, h⟩ := h
    refine ro_val (d := (some 15)) rfl (.free rfl) rfl (q_load (T := T38) (u := x7) (a := a6) rfl ok39 rfl hx7) ?_
    obtain ⟨a8, w9, ha8, hw9, h⟩ := nw_open h
    refine ro_val (d := (some 6)) rfl (.free rfl) rfl (q_alloc (u := Z38) rfl ok39 inf39 ha8 hw9) ?_
    obtain ⟨w10, hw10, hrw10, h⟩ := st_open h
    refine ro_skip (d := none) rfl (.free rfl) rfl (q_store (T := T38) (u := x7) (a := a8) rfl ok39 rfl rfl hrw10 hw10) ?_
    refine ro_nil ?_
    refine wp_seq ?_
    refine wp_text [0, 1, 2, 3] rfl ?_
    refine ro_val (d := (some 16)) rfl (.free rfl) rfl (q_fieldAddr (a := a8) (off := 1) rfl Try.underlying39 rfl rfl ok31 (by decide) rfl) ?_
    obtain ⟨x11, hx11, h⟩ := h
    refine ro_val (d := (some 17)) rfl (.free rfl) rfl (q_load (T := tSlc) (u := x11) (a := (a8.add 1)) rfl ok31 rfl hx11) ?_
    refine ro_val (d := (some 18)) rfl (.free rfl) rfl (q_len (s := x11) rfl Try.underlying31 rfl) ?_
    refine ro_val (d := (some 19)) rfl (.free rfl) rfl (q_move (v := .int .i64 ((0 : Int))) rfl rfl) ?_
    refine ro_nil ?_
    refine wp_block ?_
    refine loop_at (σ := Int) (fr := fun g (s : Int) => upd (upd (upd (upd (upd (upd (upd (g) 1 ((take_2).enc)) 10 (tSlc.enc (l_1))) 11 (.int .i64 ((l_1.len : Int)))) 12 (.int .i64 (t_3))) 17 (tSlc.enc (x11))) 18 (.int .i64 ((x11.len : Int)))) 19 (.int .i64 (s))) (s0 := ((0 : Int))) (upd_step (upd_step (upd_step (upd_step (upd_step (upd_step (upd_step rfl rfl) rfl) rfl) rfl) rfl) rfl) rfl) h ?_
    rintro t_12 g w13 K14 h
    unfold F31_l2 at h
    refine wp_seq ?_
    refine wp_text [0] rfl ?_
    refine ro_val (d := (some 20)) rfl (.free rfl) rfl (q_lss (a := t_12) (b := (x11.len : Int)) rfl rfl rfl) ?_
    refine ro_nil ?_
    refine wp_seq ?_
    refine wp_if (b := (decide (t_12 < (x11.len : Int)))) rfl h (fun hb24 h => ?_) (fun hb24 h => ?_)
    · refine wp_skip ?_
      refine wp_seq ?_
      refine wp_block ?_
      refine wp_seq ?_
      refine wp_text [0, 1, 2, 3] rfl ?_
      obtain ⟨a15, ha15, h⟩ := h
      refine ro_val (d := (some 21)) rfl (.free rfl) rfl (q_indexAddr (s := x11) (i := t_12) rfl Try.underlying31 ok37 rfl rfl ha15) ?_
      obtain ⟨x16, hx16, h⟩ := h
      refine ro_val (d := (some 22)) rfl (.free rfl) rfl (q_load (T := T36) (u := x16) (a := a15) rfl ok37 rfl hx16) ?_
      obtain ⟨a17, w18, ha17, hw18, h⟩ := nw_open h
      refine ro_val (d := (some 8)) rfl (.free rfl) rfl (q_alloc (u := Z36) rfl ok37 inf37 ha17 hw18) ?_
      obtain ⟨w19, hw19, hrw19, h⟩ := st_open h
      refine ro_skip (d := none) rfl (.free rfl) rfl (q_store (T := T36) (u := x16) (a := a17) rfl ok37 rfl rfl hrw19 hw19) ?_
      refine ro_nil ?_
      refine wp_seq ?_
      refine wp_text [0, 1, 2, 3] rfl ?_
      refine ro_val (d := (some 23)) rfl (.free rfl) rfl (q_move (v := (take_2).enc) rfl rfl) ?_
      obtain ⟨x20, hx20, h⟩ := h
      refine ro_val (d := (some 24)) rfl (.free rfl) rfl (q_load (T := T36) (u := x20) (a := a17) rfl ok37 rfl hx20) ?_
      refine ro_wp rfl (.free rfl) (wp_clv (d := (some 25)) (l := [T36.enc (x20)]) (fv := take_2) rfl rfl rfl rfl h ?_)
      intro r22 w21 h
      refine ro_val (d := (some 9)) rfl (.free rfl) rfl (q_assign (v := .int .i64 (r22)) rfl rfl) ?_
      refine ro_nil ?_
      refine wp_seq ?_
      refine wp_text [0, 1] rfl ?_
      refine ro_val (d := (some 26)) rfl (.free rfl) rfl (q_move (v := .int .i64 (r22)) rfl rfl) ?_
      refine ro_val (d := (some 27)) rfl (.free rfl) rfl (q_neq (a := r22) (b := (0 : Int)) rfl rfl rfl) ?_
      refine ro_nil ?_
      refine wp_if (b := (r22 != (0 : Int))) rfl h (fun hb23 h => ?_) (fun hb23 h => ?_)
      · refine wp_seq ?_
        refine wp_text [0, 1] rfl ?_
        refine ro_val (d := (some 28)) rfl (.free rfl) rfl (q_move (v := .int .i64 (r22)) rfl rfl) ?_
        refine ro_val (d := (some 4)) rfl (.free rfl) rfl (q_assign (v := .int .i64 (r22)) rfl rfl) ?_
        refine ro_nil ?_
        refine wp_ret ?_
        exact ret_ok rfl (.cons (.tmp (v := .int .i64 (r22)) rfl) .nil) ⟨r22, rfl, h⟩
      · refine wp_skip ?_
        refine wp_text [0, 1] rfl ?_
        refine ro_val (d := (some 29)) rfl (.free rfl) rfl (q_add (a := t_12) (b := (1 : Int)) rfl rfl rfl) ?_
        refine ro_val (d := (some 19)) rfl (.free rfl) rfl (q_move (v := .int .i64 ((IntKind.i64.wrap (t_12 + (1 : Int))))) rfl rfl) ?_
        refine ro_nil ?_
        exact ⟨((IntKind.i64.wrap (t_12 + (1 : Int)))), _, arr (upd_step (upd_step (upd_step (upd_step (upd_step (upd_step (upd_step rfl rfl) rfl) rfl) rfl) rfl) rfl) rfl), h⟩
    · refine wp_exit ?_
      refine wp_text [0, 1] rfl ?_
      refine ro_val (d := (some 30)) rfl (.free rfl) rfl (q_add (a := t_3) (b := (1 : Int)) rfl rfl rfl) ?_
      refine ro_val (d := (some 12)) rfl (.free rfl) rfl (q_move (v := .int .i64 ((IntKind.i64.wrap (t_3 + (1 : Int))))) rfl rfl) ?_
      refine ro_nil ?_
      exact ⟨((IntKind.i64.wrap (t_3 + (1 : Int)))), _, arr (upd_step (upd_step (upd_step (upd_step rfl rfl) rfl) rfl) rfl), h⟩
  · refine wp_exit ?_
    refine wp_seq ?_
    refine wp_text [0] rfl ?_
    refine ro_val (d := (some 4)) rfl (.free rfl) rfl (q_assign (v := .int .i64 ((0 : Int))) rfl rfl) ?_
    refine ro_nil ?_
    refine wp_ret ?_
    exact ret_ok rfl (.cons (.tmp (v := .int .i64 ((0 : Int))) rfl) .nil) ⟨(0 : Int), rfl, h⟩

end Go.Proofs.Ytleehieomicicaa.Cf
