/- Characteristic formulae of Go functions, and that they are. Printed by gen.py (own tool). -/
import Derived.Test.YtjhenlajkhckfaaTy
namespace Go.Proofs.Ytjhenlajkhckfaa.Cf
open Go
set_option maxRecDepth 100000
set_option maxHeartbeats 1000000
set_option linter.unusedVariables false
set_option linter.unusedSimpArgs false

-- moiety/moietylaw02.WirePacks
def F3_j1 (t_17 : Bool) (w18 : World) (R : Bool → World → Prop) : Prop :=
  R t_17 w18
def F3 (l_1 : Slc) (w : World) (R : Bool → World → Prop) : Prop :=
  cl Try.prog 11 [tSlc.enc (l_1)] tBool w fun r3 w2 =>
  if (!r3) = true then (
    cl Try.prog 12 [] tBool w2 fun r5 w4 =>
    R r5 w4
  ) else (
    nwS 36 T35 ([] : List S35) w2 fun a6 w7 =>
    apd 36 T35 5 48 (⟨some a6, 0, 0⟩ : Slc) l_1 w7 fun r9 w8 =>
    cl Try.prog 13 [tSlc.enc (r9)] (tTup2 tSlc (tInt .i64)) w8 fun r11 w10 =>
    cl Try.prog 14 [tSlc.enc (l_1)] (tTup2 tStr (tInt .i64)) w10 fun r13 w12 =>
    cl Try.prog 12 [] tBool w12 fun r15 w14 =>
    ex (fun x => (r15 && (r11.2 == r13.2)) = true → (B2S r11.1 w14) x) fun s16 =>
    if ((r15 && (r11.2 == r13.2)) && (s16 == r13.1)) = true then (
      cl Try.prog 15 [tSlc.enc (r9), tSlc.enc (l_1)] tBool w14 fun r21 w20 =>
      F3_j1 r21 w20 R
    ) else (
      F3_j1 false w14 R
    )
  )
theorem F3_ok {l_1 : Slc} {w : World} {R : Bool → World → Prop} (h : F3 l_1 w R) : cl Try.prog 3 [tSlc.enc (l_1)] tBool w R := by
  unfold F3 at h
  refine calls_start 42 Try.func3 rfl rfl (Nat.le_of_ble_eq_true rfl) ?_
  refine wp_seq ?_
  refine wp_text [0] rfl ?_
  refine ro_val (d := (some 2)) rfl (.free rfl) rfl (q_assign (v := .bool (false)) rfl rfl) ?_
  refine ro_nil ?_
  refine wp_seq ?_
  refine wp_seq ?_
  refine wp_text [0, 1, 2] rfl ?_
  refine ro_val (d := (some 8)) rfl (.free rfl) rfl (q_move (v := tSlc.enc (l_1)) rfl rfl) ?_
  refine ro_wp rfl (.free rfl) (wp_cl (d := (some 9)) rfl (q_call (k := 11) (l := [tSlc.enc (l_1)]) rfl ent11 rfl) h ?_)
  intro r3 w2 h
  refine ro_val (d := (some 10)) rfl (.free rfl) rfl (q_not (b := r3) rfl rfl) ?_
  refine ro_nil ?_
  refine wp_if (b := (!r3)) rfl h (fun hb22 h => ?_) (fun hb22 h => ?_)
  · refine wp_seq ?_
    refine wp_text [0, 1] rfl ?_
    refine ro_wp rfl (.free rfl) (wp_cl (d := (some 11)) rfl (q_call (k := 12) (l := []) rfl ent12 rfl) h ?_)
    intro r5 w4 h
    refine ro_val (d := (some 2)) rfl (.free rfl) rfl (q_assign (v := .bool (r5)) rfl rfl) ?_
    refine ro_nil ?_
    refine wp_ret ?_
    exact ret_ok rfl (.cons (.tmp (v := .bool (r5)) rfl) .nil) ⟨r5, rfl, h⟩
  · refine wp_skip ?_
    refine wp_seq ?_
    refine wp_text [0, 1, 2, 3] rfl ?_
    obtain ⟨a6, w7, ha6, hw7, h⟩ := nwS_open h
    refine ro_val (d := (some 12)) rfl (.free rfl) rfl (q_row0 (T := T35) rfl Try.underlying22 ok36 inf36 ha6 hw7) ?_
    refine ro_val (d := (some 13)) rfl (.free rfl) rfl (q_move (v := tSlc.enc (l_1)) rfl rfl) ?_
    refine ro_wp rfl (.free rfl) (wp_append (d := (some 14)) (T := T35) rfl rfl Try.underlying22 ⟨_, Try.underlying22⟩ ok36 inf36 rfl rfl (Nat.lt_of_lt_of_le Nat.zero_lt_one (Nat.le_of_ble_eq_true rfl)) rfl rfl h ?_)
    intro r9 w8 h
    refine ro_val (d := (some 3)) rfl (.free rfl) rfl (q_assign (v := tSlc.enc (r9)) rfl rfl) ?_
    refine ro_nil ?_
    refine wp_seq ?_
    refine wp_text [0, 1, 2, 3, 4, 5, 6] rfl ?_
    refine ro_val (d := (some 16)) rfl (.free rfl) rfl (q_move (v := tSlc.enc (r9)) rfl rfl) ?_
    refine ro_wp rfl (.free rfl) (wp_cl (d := (some 17)) rfl (q_call (k := 13) (l := [tSlc.enc (r9)]) rfl ent13 rfl) h ?_)
    intro r11 w10 h
    refine ro_val (d := (some 15)) rfl (.free rfl) rfl (q_move (v := (tTup2 tSlc (tInt .i64)).enc (r11)) rfl rfl) ?_
    refine ro_val (d := (some 18)) rfl (.free rfl) rfl (q_extract (vs := #[tSlc.enc (r11.1), .int .i64 (r11.2)]) (v := tSlc.enc (r11.1)) rfl rfl rfl) ?_
    refine ro_val (d := (some 19)) rfl (.free rfl) rfl (q_extract (vs := #[tSlc.enc (r11.1), .int .i64 (r11.2)]) (v := .int .i64 (r11.2)) rfl rfl rfl) ?_
    refine ro_val (d := (some 4)) rfl (.free rfl) rfl (q_assign (v := tSlc.enc (r11.1)) rfl rfl) ?_
    refine ro_val (d := (some 5)) rfl (.free rfl) rfl (q_assign (v := .int .i64 (r11.2)) rfl rfl) ?_
    refine ro_nil ?_
    refine wp_seq ?_
    refine wp_text [0, 1, 2, 3, 4, 5, 6] rfl ?_
    refine ro_val (d := (some 21)) rfl (.free rfl) rfl (q_move (v := tSlc.enc (l_1)) rfl rfl) ?_
    refine ro_wp rfl (.free rfl) (wp_cl (d := (some 22)) rfl (q_call (k := 14) (l := [tSlc.enc (l_1)]) rfl ent14 rfl) h ?_)
    intro r13 w12 h
    refine ro_val (d := (some 20)) rfl (.free rfl) rfl (q_move (v := (tTup2 tStr (tInt .i64)).enc (r13)) rfl rfl) ?_
    refine ro_val (d := (some 23)) rfl (.free rfl) rfl (q_extract (vs := #[.string ⟨(r13.1).toArray⟩, .int .i64 (r13.2)]) (v := .string ⟨(r13.1).toArray⟩) rfl rfl rfl) ?_
    refine ro_val (d := (some 24)) rfl (.free rfl) rfl (q_extract (vs := #[.string ⟨(r13.1).toArray⟩, .int .i64 (r13.2)]) (v := .int .i64 (r13.2)) rfl rfl rfl) ?_
    refine ro_val (d := (some 6)) rfl (.free rfl) rfl (q_assign (v := .string ⟨(r13.1).toArray⟩) rfl rfl) ?_
    refine ro_val (d := (some 7)) rfl (.free rfl) rfl (q_assign (v := .int .i64 (r13.2)) rfl rfl) ?_
    refine ro_nil ?_
    refine wp_seq ?_
    refine wp_text [0, 1, 2, 3, 4, 5, 6, 7, 8, 9, 10, 11, 12, 13, 14, 15, 16, 17] rfl ?_
    refine ro_wp rfl (.free rfl) (wp_cl (d := (some 25)) rfl (q_call (k := 12) (l := []) rfl ent12 rfl) h ?_)
    intro r15 w14 h
    refine ro_val (d := (some 26)) rfl (.free rfl) rfl (q_move (v := .bool (r15)) rfl rfl) ?_
    refine ro_gval (g := r15) (d := (some 27)) rfl (.yes 1 26 true r15 rfl rfl rfl rfl) rfl (fun hg => q_move (v := .int .i64 (r11.2)) rfl rfl) ?_
    refine ro_gval (g := r15) (d := (some 28)) rfl (.yes 1 26 true r15 rfl rfl rfl rfl) rfl (fun hg => q_move (v := .int .i64 (r13.2)) rfl rfl) ?_
    refine ro_gval (g := r15) (d := (some 29)) rfl (.yes 1 26 true r15 rfl rfl rfl rfl) rfl (fun hg => q_eql (a := r11.2) (b := r13.2) rfl (gvb_yes hg) (gvb_yes hg)) ?_
    refine ro_val (d := (some 30)) rfl (.free rfl) rfl (q_pickGT (a := r15) (b := (r11.2 == r13.2)) rfl rfl rfl rfl) ?_
    refine ro_val (d := (some 31)) rfl (.free rfl) rfl (q_move (v := .bool ((r15 && (r11.2 == r13.2)))) rfl rfl) ?_
    refine ro_gval (g := (r15 && (r11.2 == r13.2))) (d := (some 32)) rfl (.yes 6 31 true (r15 && (r11.2 == r13.2)) rfl rfl rfl rfl) rfl (fun hg => q_move (v := tSlc.enc (r11.1)) rfl rfl) ?_
    obtain ⟨s16, hs16, h⟩ := h
    refine ro_gval (g := (r15 && (r11.2 == r13.2))) (d := (some 33)) rfl (.yes 6 31 true (r15 && (r11.2 == r13.2)) rfl rfl rfl rfl) rfl (fun hg => q_b2s (b := r11.1) (r := s16) rfl Try.underlying25 Try.underlying5 Try.underlying9 (gvb_yes hg) (hs16 hg)) ?_
    refine ro_gval (g := (r15 && (r11.2 == r13.2))) (d := (some 34)) rfl (.yes 6 31 true (r15 && (r11.2 == r13.2)) rfl rfl rfl rfl) rfl (fun hg => q_move (v := .string ⟨(r13.1).toArray⟩) rfl rfl) ?_
    refine ro_gval (g := (r15 && (r11.2 == r13.2))) (d := (some 35)) rfl (.yes 6 31 true (r15 && (r11.2 == r13.2)) rfl rfl rfl rfl) rfl (fun hg => q_eqS (a := s16) (b := r13.1) rfl (gvb_yes hg) (gvb_yes hg)) ?_
    refine ro_val (d := (some 36)) rfl (.free rfl) rfl (q_pickGT (a := (r15 && (r11.2 == r13.2))) (b := (s16 == r13.1)) rfl rfl rfl rfl) ?_
    refine ro_val (d := (some 37)) rfl (.free rfl) rfl (q_move (v := .bool (((r15 && (r11.2 == r13.2)) && (s16 == r13.1)))) rfl rfl) ?_
    refine ro_join (σ := Bool) (J := fun (s : Bool) w => F3_j1 s w R) (fr := fun g (s : Bool) => upd (g) 41 (.bool (s))) [13, 14, 15, 16] [17] ?_ ?_
    · rintro t_17 g w18 h
      unfold F3_j1 at h
      refine ro_val (d := (some 2)) rfl (.free rfl) rfl (q_assign (v := .bool (t_17)) rfl rfl) ?_
      refine ro_nil ?_
      refine wp_ret ?_
      exact ret_ok rfl (.cons (.tmp (v := .bool (t_17)) rfl) .nil) ⟨t_17, rfl, h⟩
    · refine ro_if (b := ((r15 && (r11.2 == r13.2)) && (s16 == r13.1))) h (fun hb19 h => ?_) (fun hb19 h => ?_)
      · refine ro_val (d := (some 38)) rfl (.by_ 12 true 37 ((r15 && (r11.2 == r13.2)) && (s16 == r13.1)) rfl rfl rfl hb19) rfl (q_move (v := tSlc.enc (r9)) rfl rfl) ?_
        refine ro_val (d := (some 39)) rfl (.by_ 12 true 37 ((r15 && (r11.2 == r13.2)) && (s16 == r13.1)) rfl rfl rfl hb19) rfl (q_move (v := tSlc.enc (l_1)) rfl rfl) ?_
        refine ro_wp rfl (.by_ 12 true 37 ((r15 && (r11.2 == r13.2)) && (s16 == r13.1)) rfl rfl rfl hb19) (wp_cl (d := (some 40)) rfl (q_call (k := 15) (l := [tSlc.enc (r9), tSlc.enc (l_1)]) rfl ent15 rfl) h ?_)
        intro r21 w20 h
        refine ro_val (d := (some 41)) rfl (.free rfl) rfl (q_pickT (v := .bool (r21)) (b := ((r15 && (r11.2 == r13.2)) && (s16 == r13.1))) rfl rfl hb19 rfl) ?_
        refine ro_nil ?_
        exact ⟨(r21), _, arr (upd_step rfl rfl), h⟩
      · refine ro_bar (d := (some 38)) rfl (.by_ 12 true 37 ((r15 && (r11.2 == r13.2)) && (s16 == r13.1)) rfl rfl rfl hb19) rfl ?_
        refine ro_bar (d := (some 39)) rfl (.by_ 12 true 37 ((r15 && (r11.2 == r13.2)) && (s16 == r13.1)) rfl rfl rfl hb19) rfl ?_
        refine ro_bar (d := (some 40)) rfl (.by_ 12 true 37 ((r15 && (r11.2 == r13.2)) && (s16 == r13.1)) rfl rfl rfl hb19) rfl ?_
        refine ro_val (d := (some 41)) rfl (.free rfl) rfl (q_pickF (v := .bool (false)) (b := ((r15 && (r11.2 == r13.2)) && (s16 == r13.1))) rfl rfl hb19 rfl) ?_
        refine ro_nil ?_
        exact ⟨(false), _, arr (upd_step rfl rfl), h⟩

-- moiety/moietylaw02.WireValid
def F4_j1 (t_4 : Bool) (w5 : World) (R : Bool → World → Prop) : Prop :=
  R t_4 w5
def F4 (v_1 : S35) (w : World) (R : Bool → World → Prop) : Prop :=
  nw 36 T35 v_1 w fun a2 w3 =>
  dr w3 fun w6 =>
  cl Try.prog 12 [] tBool w6 fun r8 w7 =>
  if r8 = true then (
    ex (RdAt tStr (a2.add 4) w7) fun x10 =>
    if (decide ((x10.length : Int) > (5000 : Int))) = true then (
      F4_j1 true w7 R
    ) else (
      ex (RdAt T35 a2 w7) fun x12 =>
      ex (RdAt T35 a2 w7) fun x13 =>
      cl Try.prog 16 [T35.enc (x12)] (tInt .i64) w7 fun r15 w14 =>
      kp ((RdAt tStr (a2.add 4) w14) x10) <|
      kp ((RdAt T35 a2 w14) x13) <|
      cl Try.prog 17 [T35.enc (x13)] (tInt .i64) w14 fun r19 w18 =>
      kp ((RdAt tStr (a2.add 4) w18) x10) <|
      kp ((RdAt T35 a2 w18) x12) <|
      F4_j1 (r15 == r19) w18 R
    )
  ) else (
    F4_j1 false w7 R
  )
theorem F4_ok {v_1 : S35} {w : World} {R : Bool → World → Prop} (h : F4 v_1 w R) : cl Try.prog 4 [T35.enc (v_1)] tBool w R := by
  unfold F4 at h
  refine calls_start 17 Try.func4 rfl rfl (Nat.le_of_ble_eq_true rfl) ?_
  refine wp_seq ?_
  refine wp_text [0, 1] rfl ?_
  obtain ⟨a2, w3, ha2, hw3, h⟩ := nw_open h
  refine ro_val (d := (some 1)) rfl (.free rfl) rfl (q_box (u := v_1) rfl ok36 rfl ha2 hw3) ?_
  refine ro_val (d := (some 2)) rfl (.free rfl) rfl (q_assign (v := .bool (false)) rfl rfl) ?_
  refine ro_nil ?_
  refine seq_join (σ := Bool) (J := fun (s : Bool) w => F4_j1 s w R) (fr := fun g (s : Bool) => upd (g) 2 (.bool (s))) ?_ ?_
  · rintro t_4 g w5 h
    unfold F4_j1 at h
    refine wp_ret ?_
    exact ret_ok rfl (.cons (.tmp (v := .bool (t_4)) rfl) .nil) ⟨t_4, rfl, h⟩
  · obtain ⟨w6, hw6, h⟩ := dr_open h
    refine wp_drawn 15 mixed rfl (by kernel_rfl) (by intro c a d v w h; cases d <;> exact h) hw6 (fun hD => ?_)
    refine rd_one (i := 0) (by kernel_rfl) ?_
    refine po_wp rfl (.free rfl) (wp_cl (d := (some 3)) rfl (q_call (k := 12) (l := []) rfl ent12 rfl) h ?_)
    intro r8 w7 h
    refine ⟨hk_nil, ?_⟩
    refine rd_pure (i := 1) (d := (some 4)) hD (by kernel_rfl) (by kernel_rfl) rfl (.free rfl) rfl (fun _ => q_move (v := .bool (r8)) rfl rfl) ?_
    refine ro_if (b := r8) h (fun hb9 h => ?_) (fun hb9 h => ?_)
    · refine rd_pure (i := 2) (d := (some 5)) hD (by kernel_rfl) (by kernel_rfl) rfl (.by_ 1 true 4 r8 rfl rfl rfl hb9) rfl (fun _ => q_fieldAddr (a := a2) (off := 4) rfl Try.underlying36 rfl rfl ok9 (by decide) rfl) ?_
      obtain ⟨x10, hx10, h⟩ := h
      refine rd_read (i := 3) (d := (some 6)) (fun W => (RdAt tStr (a2.add 4) W) x10) hD (by kernel_rfl) (by kernel_rfl) rfl (.by_ 1 true 4 r8 rfl rfl rfl hb9) rfl (fun W hr => q_load (T := tStr) (u := x10) (a := (a2.add 4)) rfl ok9 rfl hr) hx10 ?_
      refine rd_pure (i := 4) (d := (some 7)) hD (by kernel_rfl) (by kernel_rfl) rfl (.by_ 1 true 4 r8 rfl rfl rfl hb9) rfl (fun _ => q_lenS (s := x10) rfl Try.underlying9 rfl) ?_
      refine rd_pure (i := 5) (d := (some 8)) hD (by kernel_rfl) (by kernel_rfl) rfl (.by_ 1 true 4 r8 rfl rfl rfl hb9) rfl (fun _ => q_gtr (a := (x10.length : Int)) (b := (5000 : Int)) rfl rfl rfl) ?_
      refine rd_pure (i := 6) (d := (some 9)) hD (by kernel_rfl) (by kernel_rfl) rfl (.by_ 1 true 4 r8 rfl rfl rfl hb9) rfl (fun _ => q_move (v := .bool ((decide ((x10.length : Int) > (5000 : Int))))) rfl rfl) ?_
      refine ro_if (b := (decide ((x10.length : Int) > (5000 : Int)))) h (fun hb11 h => ?_) (fun hb11 h => ?_)
      · refine rd_bar (i := 7) (d := (some 10)) hD (by kernel_rfl) (by kernel_rfl) rfl (.by_ 6 false 9 (decide ((x10.length : Int) > (5000 : Int))) rfl rfl rfl hb11) rfl ?_
        refine rd_bar (i := 9) (d := (some 12)) hD (by kernel_rfl) (by kernel_rfl) rfl (.by_ 6 false 9 (decide ((x10.length : Int) > (5000 : Int))) rfl rfl rfl hb11) rfl ?_
        refine rd_one (i := 8) (by kernel_rfl) ?_
        refine po_bar (d := (some 11)) rfl (.by_ 6 false 9 (decide ((x10.length : Int) > (5000 : Int))) rfl rfl rfl hb11) rfl ⟨fun _ _ _ h => h, ?_⟩
        refine rd_one (i := 10) (by kernel_rfl) ?_
        refine po_bar (d := (some 13)) rfl (.by_ 6 false 9 (decide ((x10.length : Int) > (5000 : Int))) rfl rfl rfl hb11) rfl ⟨fun _ _ _ h => h, ?_⟩
        refine rd_bar (i := 11) (d := (some 14)) hD (by kernel_rfl) (by kernel_rfl) rfl (.by_ 6 false 9 (decide ((x10.length : Int) > (5000 : Int))) rfl rfl rfl hb11) rfl ?_
        refine rd_pure (i := 12) (d := (some 15)) hD (by kernel_rfl) (by kernel_rfl) rfl (.by_ 1 true 4 r8 rfl rfl rfl hb9) rfl (fun _ => q_pickT (v := .bool (true)) (b := (decide ((x10.length : Int) > (5000 : Int)))) rfl rfl hb11 rfl) ?_
        refine rd_pure (i := 13) (d := (some 16)) hD (by kernel_rfl) (by kernel_rfl) rfl (.free rfl) rfl (fun _ => q_pickT (v := .bool (true)) (b := r8) rfl rfl hb9 rfl) ?_
        refine rd_pure (i := 14) (d := (some 2)) hD (by kernel_rfl) (by kernel_rfl) rfl (.free rfl) rfl (fun _ => q_assign (v := .bool (true)) rfl rfl) ?_
        refine rd_nil (by kernel_rfl) ?_
        exact ⟨(true), _, arr (upd_step rfl rfl), h⟩
      · obtain ⟨x12, hx12, h⟩ := h
        refine rd_read (i := 7) (d := (some 10)) (fun W => (RdAt T35 a2 W) x12) hD (by kernel_rfl) (by kernel_rfl) rfl (.by_ 6 false 9 (decide ((x10.length : Int) > (5000 : Int))) rfl rfl rfl hb11) rfl (fun W hr => q_load (T := T35) (u := x12) (a := a2) rfl ok36 rfl hr) hx12 ?_
        obtain ⟨x13, hx13, h⟩ := h
        refine rd_read (i := 9) (d := (some 12)) (fun W => (RdAt T35 a2 W) x13) hD (by kernel_rfl) (by kernel_rfl) rfl (.by_ 6 false 9 (decide ((x10.length : Int) > (5000 : Int))) rfl rfl rfl hb11) rfl (fun W hr => q_load (T := T35) (u := x13) (a := a2) rfl ok36 rfl hr) hx13 ?_
        refine rd_one (i := 8) (by kernel_rfl) ?_
        refine po_wp rfl (.by_ 6 false 9 (decide ((x10.length : Int) > (5000 : Int))) rfl rfl rfl hb11) (wp_cl (d := (some 11)) rfl (q_call (k := 16) (l := [T35.enc (x12)]) rfl ent16 rfl) h ?_)
        intro r15 w14 h
        obtain ⟨hk16, h⟩ := h
        obtain ⟨hk17, h⟩ := h
        refine ⟨(hk_keep (fun _ => hk17) (hk_wait (by kernel_rfl) (hk_keep (fun _ => hk16) hk_nil))), ?_⟩
        refine rd_one (i := 10) (by kernel_rfl) ?_
        refine po_wp rfl (.by_ 6 false 9 (decide ((x10.length : Int) > (5000 : Int))) rfl rfl rfl hb11) (wp_cl (d := (some 13)) rfl (q_call (k := 17) (l := [T35.enc (x13)]) rfl ent17 rfl) h ?_)
        intro r19 w18 h
        obtain ⟨hk20, h⟩ := h
        obtain ⟨hk21, h⟩ := h
        refine ⟨(hk_wait (by kernel_rfl) (hk_keep (fun _ => hk21) (hk_keep (fun _ => hk20) hk_nil))), ?_⟩
        refine rd_pure (i := 11) (d := (some 14)) hD (by kernel_rfl) (by kernel_rfl) rfl (.by_ 6 false 9 (decide ((x10.length : Int) > (5000 : Int))) rfl rfl rfl hb11) rfl (fun _ => q_eql (a := r15) (b := r19) rfl rfl rfl) ?_
        refine rd_pure (i := 12) (d := (some 15)) hD (by kernel_rfl) (by kernel_rfl) rfl (.by_ 1 true 4 r8 rfl rfl rfl hb9) rfl (fun _ => q_pickF (v := .bool ((r15 == r19))) (b := (decide ((x10.length : Int) > (5000 : Int)))) rfl rfl hb11 rfl) ?_
        refine rd_pure (i := 13) (d := (some 16)) hD (by kernel_rfl) (by kernel_rfl) rfl (.free rfl) rfl (fun _ => q_pickT (v := .bool ((r15 == r19))) (b := r8) rfl rfl hb9 rfl) ?_
        refine rd_pure (i := 14) (d := (some 2)) hD (by kernel_rfl) (by kernel_rfl) rfl (.free rfl) rfl (fun _ => q_assign (v := .bool ((r15 == r19))) rfl rfl) ?_
        refine rd_nil (by kernel_rfl) ?_
        exact ⟨((r15 == r19)), _, arr (upd_step rfl rfl), h⟩
    · refine rd_bar (i := 2) (d := (some 5)) hD (by kernel_rfl) (by kernel_rfl) rfl (.by_ 1 true 4 r8 rfl rfl rfl hb9) rfl ?_
      refine rd_bar (i := 3) (d := (some 6)) hD (by kernel_rfl) (by kernel_rfl) rfl (.by_ 1 true 4 r8 rfl rfl rfl hb9) rfl ?_
      refine rd_bar (i := 4) (d := (some 7)) hD (by kernel_rfl) (by kernel_rfl) rfl (.by_ 1 true 4 r8 rfl rfl rfl hb9) rfl ?_
      refine rd_bar (i := 5) (d := (some 8)) hD (by kernel_rfl) (by kernel_rfl) rfl (.by_ 1 true 4 r8 rfl rfl rfl hb9) rfl ?_
      refine rd_bar (i := 6) (d := (some 9)) hD (by kernel_rfl) (by kernel_rfl) rfl (.by_ 1 true 4 r8 rfl rfl rfl hb9) rfl ?_
      refine rd_bar (i := 7) (d := (some 10)) hD (by kernel_rfl) (by kernel_rfl) rfl (.undef 6 false 9 rfl rfl rfl) rfl ?_
      refine rd_bar (i := 9) (d := (some 12)) hD (by kernel_rfl) (by kernel_rfl) rfl (.undef 6 false 9 rfl rfl rfl) rfl ?_
      refine rd_one (i := 8) (by kernel_rfl) ?_
      refine po_bar (d := (some 11)) rfl (.undef 6 false 9 rfl rfl rfl) rfl ⟨fun _ _ _ h => h, ?_⟩
      refine rd_one (i := 10) (by kernel_rfl) ?_
      refine po_bar (d := (some 13)) rfl (.undef 6 false 9 rfl rfl rfl) rfl ⟨fun _ _ _ h => h, ?_⟩
      refine rd_bar (i := 11) (d := (some 14)) hD (by kernel_rfl) (by kernel_rfl) rfl (.undef 6 false 9 rfl rfl rfl) rfl ?_
      refine rd_bar (i := 12) (d := (some 15)) hD (by kernel_rfl) (by kernel_rfl) rfl (.by_ 1 true 4 r8 rfl rfl rfl hb9) rfl ?_
      refine rd_pure (i := 13) (d := (some 16)) hD (by kernel_rfl) (by kernel_rfl) rfl (.free rfl) rfl (fun _ => q_pickF (v := .bool (false)) (b := r8) rfl rfl hb9 rfl) ?_
      refine rd_pure (i := 14) (d := (some 2)) hD (by kernel_rfl) (by kernel_rfl) rfl (.free rfl) rfl (fun _ => q_assign (v := .bool (false)) rfl rfl) ?_
      refine rd_nil (by kernel_rfl) ?_
      exact ⟨(false), _, arr (upd_step rfl rfl), h⟩

-- moiety/moietylaw02.WireBack
def F5_j1 (t_14 : Bool) (w15 : World) (R : Bool → World → Prop) : Prop :=
  R t_14 w15
def F5 (l_1 : Slc) (w : World) (R : Bool → World → Prop) : Prop :=
  cl Try.prog 11 [tSlc.enc (l_1)] tBool w fun r3 w2 =>
  if (!r3) = true then (
    cl Try.prog 12 [] tBool w2 fun r5 w4 =>
    R r5 w4
  ) else (
    cl Try.prog 13 [tSlc.enc (l_1)] (tTup2 tSlc (tInt .i64)) w2 fun r7 w6 =>
    cl Try.prog 12 [] tBool w6 fun r9 w8 =>
    if ((!r9) || (r7.2 != (0 : Int))) = true then (
      cl Try.prog 12 [] tBool w8 fun r11 w10 =>
      R r11 w10
    ) else (
      cl Try.prog 18 [tSlc.enc (r7.1)] (tTup3 tSlc (tInt .i64) (tInt .i64)) w8 fun r13 w12 =>
      if ((r13.2.2 == (0 : Int)) && (r13.2.1 == (0 : Int))) = true then (
        cl Try.prog 15 [tSlc.enc (l_1), tSlc.enc (r13.1)] tBool w12 fun r18 w17 =>
        F5_j1 r18 w17 R
      ) else (
        F5_j1 false w12 R
      )
    )
  )
theorem F5_ok {l_1 : Slc} {w : World} {R : Bool → World → Prop} (h : F5 l_1 w R) : cl Try.prog 5 [tSlc.enc (l_1)] tBool w R := by
  unfold F5 at h
  refine calls_start 41 Try.func5 rfl rfl (Nat.le_of_ble_eq_true rfl) ?_
  refine wp_seq ?_
  refine wp_text [0] rfl ?_
  refine ro_val (d := (some 2)) rfl (.free rfl) rfl (q_assign (v := .bool (false)) rfl rfl) ?_
  refine ro_nil ?_
  refine wp_seq ?_
  refine wp_seq ?_
  refine wp_text [0, 1, 2] rfl ?_
  refine ro_val (d := (some 8)) rfl (.free rfl) rfl (q_move (v := tSlc.enc (l_1)) rfl rfl) ?_
  refine ro_wp rfl (.free rfl) (wp_cl (d := (some 9)) rfl (q_call (k := 11) (l := [tSlc.enc (l_1)]) rfl ent11 rfl) h ?_)
  intro r3 w2 h
  refine ro_val (d := (some 10)) rfl (.free rfl) rfl (q_not (b := r3) rfl rfl) ?_
  refine ro_nil ?_
  refine wp_if (b := (!r3)) rfl h (fun hb20 h => ?_) (fun hb20 h => ?_)
  · refine wp_seq ?_
    refine wp_text [0, 1] rfl ?_
    refine ro_wp rfl (.free rfl) (wp_cl (d := (some 11)) rfl (q_call (k := 12) (l := []) rfl ent12 rfl) h ?_)
    intro r5 w4 h
    refine ro_val (d := (some 2)) rfl (.free rfl) rfl (q_assign (v := .bool (r5)) rfl rfl) ?_
    refine ro_nil ?_
    refine wp_ret ?_
    exact ret_ok rfl (.cons (.tmp (v := .bool (r5)) rfl) .nil) ⟨r5, rfl, h⟩
  · refine wp_skip ?_
    refine wp_seq ?_
    refine wp_text [0, 1, 2, 3, 4, 5, 6] rfl ?_
    refine ro_val (d := (some 13)) rfl (.free rfl) rfl (q_move (v := tSlc.enc (l_1)) rfl rfl) ?_
    refine ro_wp rfl (.free rfl) (wp_cl (d := (some 14)) rfl (q_call (k := 13) (l := [tSlc.enc (l_1)]) rfl ent13 rfl) h ?_)
    intro r7 w6 h
    refine ro_val (d := (some 12)) rfl (.free rfl) rfl (q_move (v := (tTup2 tSlc (tInt .i64)).enc (r7)) rfl rfl) ?_
    refine ro_val (d := (some 15)) rfl (.free rfl) rfl (q_extract (vs := #[tSlc.enc (r7.1), .int .i64 (r7.2)]) (v := tSlc.enc (r7.1)) rfl rfl rfl) ?_
    refine ro_val (d := (some 16)) rfl (.free rfl) rfl (q_extract (vs := #[tSlc.enc (r7.1), .int .i64 (r7.2)]) (v := .int .i64 (r7.2)) rfl rfl rfl) ?_
    refine ro_val (d := (some 3)) rfl (.free rfl) rfl (q_assign (v := tSlc.enc (r7.1)) rfl rfl) ?_
    refine ro_val (d := (some 4)) rfl (.free rfl) rfl (q_assign (v := .int .i64 (r7.2)) rfl rfl) ?_
    refine ro_nil ?_
    refine wp_seq ?_
    refine wp_seq ?_
    refine wp_text [0, 1, 2, 3, 4, 5] rfl ?_
    refine ro_wp rfl (.free rfl) (wp_cl (d := (some 17)) rfl (q_call (k := 12) (l := []) rfl ent12 rfl) h ?_)
    intro r9 w8 h
    refine ro_val (d := (some 18)) rfl (.free rfl) rfl (q_not (b := r9) rfl rfl) ?_
    refine ro_val (d := (some 19)) rfl (.free rfl) rfl (q_move (v := .bool ((!r9))) rfl rfl) ?_
    refine ro_gval (g := (!(!r9))) (d := (some 20)) rfl (.no 2 19 true (!r9) rfl rfl rfl rfl) rfl (fun hg => q_move (v := .int .i64 (r7.2)) rfl rfl) ?_
    refine ro_gval (g := (!(!r9))) (d := (some 21)) rfl (.no 2 19 true (!r9) rfl rfl rfl rfl) rfl (fun hg => q_neq (a := r7.2) (b := (0 : Int)) rfl (gvb_yes hg) rfl) ?_
    refine ro_val (d := (some 22)) rfl (.free rfl) rfl (q_pickGF (a := (!r9)) (c := (r7.2 != (0 : Int))) rfl rfl rfl rfl) ?_
    refine ro_nil ?_
    refine wp_if (b := ((!r9) || (r7.2 != (0 : Int)))) rfl h (fun hb19 h => ?_) (fun hb19 h => ?_)
    · refine wp_seq ?_
      refine wp_text [0, 1] rfl ?_
      refine ro_wp rfl (.free rfl) (wp_cl (d := (some 23)) rfl (q_call (k := 12) (l := []) rfl ent12 rfl) h ?_)
      intro r11 w10 h
      refine ro_val (d := (some 2)) rfl (.free rfl) rfl (q_assign (v := .bool (r11)) rfl rfl) ?_
      refine ro_nil ?_
      refine wp_ret ?_
      exact ret_ok rfl (.cons (.tmp (v := .bool (r11)) rfl) .nil) ⟨r11, rfl, h⟩
    · refine wp_skip ?_
      refine wp_seq ?_
      refine wp_text [0, 1, 2, 3, 4, 5, 6, 7, 8] rfl ?_
      refine ro_val (d := (some 25)) rfl (.free rfl) rfl (q_move (v := tSlc.enc (r7.1)) rfl rfl) ?_
      refine ro_wp rfl (.free rfl) (wp_cl (d := (some 26)) rfl (q_call (k := 18) (l := [tSlc.enc (r7.1)]) rfl ent18 rfl) h ?_)
      intro r13 w12 h
      refine ro_val (d := (some 24)) rfl (.free rfl) rfl (q_move (v := (tTup3 tSlc (tInt .i64) (tInt .i64)).enc (r13)) rfl rfl) ?_
      refine ro_val (d := (some 27)) rfl (.free rfl) rfl (q_extract (vs := #[tSlc.enc (r13.1), .int .i64 (r13.2.1), .int .i64 (r13.2.2)]) (v := tSlc.enc (r13.1)) rfl rfl rfl) ?_
      refine ro_val (d := (some 28)) rfl (.free rfl) rfl (q_extract (vs := #[tSlc.enc (r13.1), .int .i64 (r13.2.1), .int .i64 (r13.2.2)]) (v := .int .i64 (r13.2.1)) rfl rfl rfl) ?_
      refine ro_val (d := (some 29)) rfl (.free rfl) rfl (q_extract (vs := #[tSlc.enc (r13.1), .int .i64 (r13.2.1), .int .i64 (r13.2.2)]) (v := .int .i64 (r13.2.2)) rfl rfl rfl) ?_
      refine ro_val (d := (some 5)) rfl (.free rfl) rfl (q_assign (v := tSlc.enc (r13.1)) rfl rfl) ?_
      refine ro_val (d := (some 6)) rfl (.free rfl) rfl (q_assign (v := .int .i64 (r13.2.1)) rfl rfl) ?_
      refine ro_val (d := (some 7)) rfl (.free rfl) rfl (q_assign (v := .int .i64 (r13.2.2)) rfl rfl) ?_
      refine ro_nil ?_
      refine wp_seq ?_
      refine wp_text [0, 1, 2, 3, 4, 5, 6, 7, 8, 9, 10, 11] rfl ?_
      refine ro_val (d := (some 30)) rfl (.free rfl) rfl (q_move (v := .int .i64 (r13.2.2)) rfl rfl) ?_
      refine ro_val (d := (some 31)) rfl (.free rfl) rfl (q_eql (a := r13.2.2) (b := (0 : Int)) rfl rfl rfl) ?_
      refine ro_val (d := (some 32)) rfl (.free rfl) rfl (q_move (v := .bool ((r13.2.2 == (0 : Int)))) rfl rfl) ?_
      refine ro_gval (g := (r13.2.2 == (0 : Int))) (d := (some 33)) rfl (.yes 2 32 true (r13.2.2 == (0 : Int)) rfl rfl rfl rfl) rfl (fun hg => q_move (v := .int .i64 (r13.2.1)) rfl rfl) ?_
      refine ro_gval (g := (r13.2.2 == (0 : Int))) (d := (some 34)) rfl (.yes 2 32 true (r13.2.2 == (0 : Int)) rfl rfl rfl rfl) rfl (fun hg => q_eql (a := r13.2.1) (b := (0 : Int)) rfl (gvb_yes hg) rfl) ?_
      refine ro_val (d := (some 35)) rfl (.free rfl) rfl (q_pickGT (a := (r13.2.2 == (0 : Int))) (b := (r13.2.1 == (0 : Int))) rfl rfl rfl rfl) ?_
      refine ro_val (d := (some 36)) rfl (.free rfl) rfl (q_move (v := .bool (((r13.2.2 == (0 : Int)) && (r13.2.1 == (0 : Int))))) rfl rfl) ?_
      refine ro_join (σ := Bool) (J := fun (s : Bool) w => F5_j1 s w R) (fr := fun g (s : Bool) => upd (g) 40 (.bool (s))) [7, 8, 9, 10] [11] ?_ ?_
      · rintro t_14 g w15 h
        unfold F5_j1 at h
        refine ro_val (d := (some 2)) rfl (.free rfl) rfl (q_assign (v := .bool (t_14)) rfl rfl) ?_
        refine ro_nil ?_
        refine wp_ret ?_
        exact ret_ok rfl (.cons (.tmp (v := .bool (t_14)) rfl) .nil) ⟨t_14, rfl, h⟩
      · refine ro_if (b := ((r13.2.2 == (0 : Int)) && (r13.2.1 == (0 : Int)))) h (fun hb16 h => ?_) (fun hb16 h => ?_)
        · refine ro_val (d := (some 37)) rfl (.by_ 6 true 36 ((r13.2.2 == (0 : Int)) && (r13.2.1 == (0 : Int))) rfl rfl rfl hb16) rfl (q_move (v := tSlc.enc (l_1)) rfl rfl) ?_
          refine ro_val (d := (some 38)) rfl (.by_ 6 true 36 ((r13.2.2 == (0 : Int)) && (r13.2.1 == (0 : Int))) rfl rfl rfl hb16) rfl (q_move (v := tSlc.enc (r13.1)) rfl rfl) ?_
          refine ro_wp rfl (.by_ 6 true 36 ((r13.2.2 == (0 : Int)) && (r13.2.1 == (0 : Int))) rfl rfl rfl hb16) (wp_cl (d := (some 39)) rfl (q_call (k := 15) (l := [tSlc.enc (l_1), tSlc.enc (r13.1)]) rfl ent15 rfl) h ?_)
          intro r18 w17 h
          refine ro_val (d := (some 40)) rfl (.free rfl) rfl (q_pickT (v := .bool (r18)) (b := ((r13.2.2 == (0 : Int)) && (r13.2.1 == (0 : Int)))) rfl rfl hb16 rfl) ?_
          refine ro_nil ?_
          exact ⟨(r18), _, arr (upd_step rfl rfl), h⟩
        · refine ro_bar (d := (some 37)) rfl (.by_ 6 true 36 ((r13.2.2 == (0 : Int)) && (r13.2.1 == (0 : Int))) rfl rfl rfl hb16) rfl ?_
          refine ro_bar (d := (some 38)) rfl (.by_ 6 true 36 ((r13.2.2 == (0 : Int)) && (r13.2.1 == (0 : Int))) rfl rfl rfl hb16) rfl ?_
          refine ro_bar (d := (some 39)) rfl (.by_ 6 true 36 ((r13.2.2 == (0 : Int)) && (r13.2.1 == (0 : Int))) rfl rfl rfl hb16) rfl ?_
          refine ro_val (d := (some 40)) rfl (.free rfl) rfl (q_pickF (v := .bool (false)) (b := ((r13.2.2 == (0 : Int)) && (r13.2.1 == (0 : Int)))) rfl rfl hb16 rfl) ?_
          refine ro_nil ?_
          exact ⟨(false), _, arr (upd_step rfl rfl), h⟩

-- moiety/moietylaw02.WireOnce
def F6 (s_1 : (List UInt8)) (w : World) (R : Bool → World → Prop) : Prop :=
  if (decide ((s_1.length : Int) > (20000 : Int))) = true then (
    cl Try.prog 12 [] tBool w fun r3 w2 =>
    R r3 w2
  ) else (
    s2b 5 s_1 w fun r5 w4 =>
    cl Try.prog 18 [tSlc.enc (r5)] (tTup3 tSlc (tInt .i64) (tInt .i64)) w4 fun r7 w6 =>
    cl Try.prog 12 [] tBool w6 fun r9 w8 =>
    if ((!r9) || (r7.2.2 != (0 : Int))) = true then (
      cl Try.prog 12 [] tBool w8 fun r11 w10 =>
      R (r11 && ((r7.1.len : Int) == (0 : Int))) w10
    ) else (
      cl Try.prog 13 [tSlc.enc (r7.1)] (tTup2 tSlc (tInt .i64)) w8 fun r13 w12 =>
      ex (fun x => (r13.2 == (0 : Int)) = true → (B2S r13.1 w12) x) fun s14 =>
      R ((r13.2 == (0 : Int)) && (s14 == s_1)) w12
    )
  )
theorem F6_ok {s_1 : (List UInt8)} {w : World} {R : Bool → World → Prop} (h : F6 s_1 w R) : cl Try.prog 6 [.string ⟨(s_1).toArray⟩] tBool w R := by
  unfold F6 at h
  refine calls_start 44 Try.func6 rfl rfl (Nat.le_of_ble_eq_true rfl) ?_
  refine wp_seq ?_
  refine wp_text [0] rfl ?_
  refine ro_val (d := (some 2)) rfl (.free rfl) rfl (q_assign (v := .bool (false)) rfl rfl) ?_
  refine ro_nil ?_
  refine wp_seq ?_
  refine wp_seq ?_
  refine wp_text [0, 1, 2] rfl ?_
  refine ro_val (d := (some 8)) rfl (.free rfl) rfl (q_move (v := .string ⟨(s_1).toArray⟩) rfl rfl) ?_
  refine ro_val (d := (some 9)) rfl (.free rfl) rfl (q_lenS (s := s_1) rfl Try.underlying9 rfl) ?_
  refine ro_val (d := (some 10)) rfl (.free rfl) rfl (q_gtr (a := (s_1.length : Int)) (b := (20000 : Int)) rfl rfl rfl) ?_
  refine ro_nil ?_
  refine wp_if (b := (decide ((s_1.length : Int) > (20000 : Int)))) rfl h (fun hb16 h => ?_) (fun hb16 h => ?_)
  · refine wp_seq ?_
    refine wp_text [0, 1] rfl ?_
    refine ro_wp rfl (.free rfl) (wp_cl (d := (some 11)) rfl (q_call (k := 12) (l := []) rfl ent12 rfl) h ?_)
    intro r3 w2 h
    refine ro_val (d := (some 2)) rfl (.free rfl) rfl (q_assign (v := .bool (r3)) rfl rfl) ?_
    refine ro_nil ?_
    refine wp_ret ?_
    exact ret_ok rfl (.cons (.tmp (v := .bool (r3)) rfl) .nil) ⟨r3, rfl, h⟩
  · refine wp_skip ?_
    refine wp_seq ?_
    refine wp_text [0, 1, 2, 3, 4, 5, 6, 7, 8, 9] rfl ?_
    refine ro_val (d := (some 13)) rfl (.free rfl) rfl (q_move (v := .string ⟨(s_1).toArray⟩) rfl rfl) ?_
    refine ro_wp rfl (.free rfl) (wp_s2b (b := s_1) (d := (some 14)) rfl rfl Try.underlying9 Try.underlying25 Try.underlying5 rfl h ?_)
    intro r5 w4 h
    refine ro_wp rfl (.free rfl) (wp_cl (d := (some 15)) rfl (q_call (k := 18) (l := [tSlc.enc (r5)]) rfl ent18 rfl) h ?_)
    intro r7 w6 h
    refine ro_val (d := (some 12)) rfl (.free rfl) rfl (q_move (v := (tTup3 tSlc (tInt .i64) (tInt .i64)).enc (r7)) rfl rfl) ?_
    refine ro_val (d := (some 16)) rfl (.free rfl) rfl (q_extract (vs := #[tSlc.enc (r7.1), .int .i64 (r7.2.1), .int .i64 (r7.2.2)]) (v := tSlc.enc (r7.1)) rfl rfl rfl) ?_
    refine ro_val (d := (some 17)) rfl (.free rfl) rfl (q_extract (vs := #[tSlc.enc (r7.1), .int .i64 (r7.2.1), .int .i64 (r7.2.2)]) (v := .int .i64 (r7.2.1)) rfl rfl rfl) ?_
    refine ro_val (d := (some 18)) rfl (.free rfl) rfl (q_extract (vs := #[tSlc.enc (r7.1), .int .i64 (r7.2.1), .int .i64 (r7.2.2)]) (v := .int .i64 (r7.2.2)) rfl rfl rfl) ?_
    refine ro_val (d := (some 3)) rfl (.free rfl) rfl (q_assign (v := tSlc.enc (r7.1)) rfl rfl) ?_
    refine ro_val (d := (some 4)) rfl (.free rfl) rfl (q_assign (v := .int .i64 (r7.2.1)) rfl rfl) ?_
    refine ro_val (d := (some 5)) rfl (.free rfl) rfl (q_assign (v := .int .i64 (r7.2.2)) rfl rfl) ?_
    refine ro_nil ?_
    refine wp_seq ?_
    refine wp_seq ?_
    refine wp_text [0, 1, 2, 3, 4, 5] rfl ?_
    refine ro_wp rfl (.free rfl) (wp_cl (d := (some 19)) rfl (q_call (k := 12) (l := []) rfl ent12 rfl) h ?_)
    intro r9 w8 h
    refine ro_val (d := (some 20)) rfl (.free rfl) rfl (q_not (b := r9) rfl rfl) ?_
    refine ro_val (d := (some 21)) rfl (.free rfl) rfl (q_move (v := .bool ((!r9))) rfl rfl) ?_
    refine ro_gval (g := (!(!r9))) (d := (some 22)) rfl (.no 2 21 true (!r9) rfl rfl rfl rfl) rfl (fun hg => q_move (v := .int .i64 (r7.2.2)) rfl rfl) ?_
    refine ro_gval (g := (!(!r9))) (d := (some 23)) rfl (.no 2 21 true (!r9) rfl rfl rfl rfl) rfl (fun hg => q_neq (a := r7.2.2) (b := (0 : Int)) rfl (gvb_yes hg) rfl) ?_
    refine ro_val (d := (some 24)) rfl (.free rfl) rfl (q_pickGF (a := (!r9)) (c := (r7.2.2 != (0 : Int))) rfl rfl rfl rfl) ?_
    refine ro_nil ?_
    refine wp_if (b := ((!r9) || (r7.2.2 != (0 : Int)))) rfl h (fun hb15 h => ?_) (fun hb15 h => ?_)
    · refine wp_seq ?_
      refine wp_text [0, 1, 2, 3, 4, 5, 6] rfl ?_
      refine ro_wp rfl (.free rfl) (wp_cl (d := (some 25)) rfl (q_call (k := 12) (l := []) rfl ent12 rfl) h ?_)
      intro r11 w10 h
      refine ro_val (d := (some 26)) rfl (.free rfl) rfl (q_move (v := .bool (r11)) rfl rfl) ?_
      refine ro_gval (g := r11) (d := (some 27)) rfl (.yes 1 26 true r11 rfl rfl rfl rfl) rfl (fun hg => q_move (v := tSlc.enc (r7.1)) rfl rfl) ?_
      refine ro_gval (g := r11) (d := (some 28)) rfl (.yes 1 26 true r11 rfl rfl rfl rfl) rfl (fun hg => q_len (s := r7.1) rfl Try.underlying22 (gvb_yes hg)) ?_
      refine ro_gval (g := r11) (d := (some 29)) rfl (.yes 1 26 true r11 rfl rfl rfl rfl) rfl (fun hg => q_eql (a := (r7.1.len : Int)) (b := (0 : Int)) rfl (gvb_yes hg) rfl) ?_
      refine ro_val (d := (some 30)) rfl (.free rfl) rfl (q_pickGT (a := r11) (b := ((r7.1.len : Int) == (0 : Int))) rfl rfl rfl rfl) ?_
      refine ro_val (d := (some 2)) rfl (.free rfl) rfl (q_assign (v := .bool ((r11 && ((r7.1.len : Int) == (0 : Int))))) rfl rfl) ?_
      refine ro_nil ?_
      refine wp_ret ?_
      exact ret_ok rfl (.cons (.tmp (v := .bool ((r11 && ((r7.1.len : Int) == (0 : Int))))) rfl) .nil) ⟨(r11 && ((r7.1.len : Int) == (0 : Int))), rfl, h⟩
    · refine wp_skip ?_
      refine wp_seq ?_
      refine wp_text [0, 1, 2, 3, 4, 5, 6] rfl ?_
      refine ro_val (d := (some 32)) rfl (.free rfl) rfl (q_move (v := tSlc.enc (r7.1)) rfl rfl) ?_
      refine ro_wp rfl (.free rfl) (wp_cl (d := (some 33)) rfl (q_call (k := 13) (l := [tSlc.enc (r7.1)]) rfl ent13 rfl) h ?_)
      intro r13 w12 h
      refine ro_val (d := (some 31)) rfl (.free rfl) rfl (q_move (v := (tTup2 tSlc (tInt .i64)).enc (r13)) rfl rfl) ?_
      refine ro_val (d := (some 34)) rfl (.free rfl) rfl (q_extract (vs := #[tSlc.enc (r13.1), .int .i64 (r13.2)]) (v := tSlc.enc (r13.1)) rfl rfl rfl) ?_
      refine ro_val (d := (some 35)) rfl (.free rfl) rfl (q_extract (vs := #[tSlc.enc (r13.1), .int .i64 (r13.2)]) (v := .int .i64 (r13.2)) rfl rfl rfl) ?_
      refine ro_val (d := (some 6)) rfl (.free rfl) rfl (q_assign (v := tSlc.enc (r13.1)) rfl rfl) ?_
      refine ro_val (d := (some 7)) rfl (.free rfl) rfl (q_assign (v := .int .i64 (r13.2)) rfl rfl) ?_
      refine ro_nil ?_
      refine wp_seq ?_
      refine wp_text [0, 1, 2, 3, 4, 5, 6, 7, 8] rfl ?_
      refine ro_val (d := (some 36)) rfl (.free rfl) rfl (q_move (v := .int .i64 (r13.2)) rfl rfl) ?_
      refine ro_val (d := (some 37)) rfl (.free rfl) rfl (q_eql (a := r13.2) (b := (0 : Int)) rfl rfl rfl) ?_
      refine ro_val (d := (some 38)) rfl (.free rfl) rfl (q_move (v := .bool ((r13.2 == (0 : Int)))) rfl rfl) ?_
      refine ro_gval (g := (r13.2 == (0 : Int))) (d := (some 39)) rfl (.yes 2 38 true (r13.2 == (0 : Int)) rfl rfl rfl rfl) rfl (fun hg => q_move (v := tSlc.enc (r13.1)) rfl rfl) ?_
      obtain ⟨s14, hs14, h⟩ := h
      refine ro_gval (g := (r13.2 == (0 : Int))) (d := (some 40)) rfl (.yes 2 38 true (r13.2 == (0 : Int)) rfl rfl rfl rfl) rfl (fun hg => q_b2s (b := r13.1) (r := s14) rfl Try.underlying25 Try.underlying5 Try.underlying9 (gvb_yes hg) (hs14 hg)) ?_
      refine ro_gval (g := (r13.2 == (0 : Int))) (d := (some 41)) rfl (.yes 2 38 true (r13.2 == (0 : Int)) rfl rfl rfl rfl) rfl (fun hg => q_move (v := .string ⟨(s_1).toArray⟩) rfl rfl) ?_
      refine ro_gval (g := (r13.2 == (0 : Int))) (d := (some 42)) rfl (.yes 2 38 true (r13.2 == (0 : Int)) rfl rfl rfl rfl) rfl (fun hg => q_eqS (a := s14) (b := s_1) rfl (gvb_yes hg) (gvb_yes hg)) ?_
      refine ro_val (d := (some 43)) rfl (.free rfl) rfl (q_pickGT (a := (r13.2 == (0 : Int))) (b := (s14 == s_1)) rfl rfl rfl rfl) ?_
      refine ro_val (d := (some 2)) rfl (.free rfl) rfl (q_assign (v := .bool (((r13.2 == (0 : Int)) && (s14 == s_1)))) rfl rfl) ?_
      refine ro_nil ?_
      refine wp_ret ?_
      exact ret_ok rfl (.cons (.tmp (v := .bool (((r13.2 == (0 : Int)) && (s14 == s_1)))) rfl) .nil) ⟨((r13.2 == (0 : Int)) && (s14 == s_1)), rfl, h⟩

end Go.Proofs.Ytjhenlajkhckfaa.Cf
