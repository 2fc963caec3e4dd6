/- Characteristic formulae of Go functions, and that they are. Printed by gen.py (own tool). -/
import Derived.Test.YtjhenlajkhckfaaTy
namespace Go.Proofs.Ytjhenlajkhckfaa.Cf
open Go
set_option maxRecDepth 100000
set_option maxHeartbeats 1000000
set_option linter.unusedVariables false
set_option linter.unusedSimpArgs false

-- moiety/moietylaw02.WireApart
def F9 (v_1 : S35) (w_2 : S35) (w : World) (R : Bool → World → Prop) : Prop :=
  nw 36 T35 v_1 w fun a3 w4 =>
  nw 36 T35 w_2 w4 fun a5 w6 =>
  ex (RdAt tStr (a3.add 4) w6) fun x7 =>
  ex (fun x => (!(decide ((x7.length : Int) > (3000 : Int)))) = true → (RdAt tStr (a5.add 4) w6) x) fun x8 =>
  if ((decide ((x7.length : Int) > (3000 : Int))) || (decide ((x8.length : Int) > (3000 : Int)))) = true then (
    cl Try.prog 12 [] tBool w6 fun r10 w9 =>
    R r10 w9
  ) else (
    ex (RdAt T35 a3 w6) fun x11 =>
    nwS 36 T35 [x11] w6 fun a12 w13 =>
    cl Try.prog 13 [tSlc.enc ((⟨some a12, 1, 1⟩ : Slc))] (tTup2 tSlc (tInt .i64)) w13 fun r15 w14 =>
    ex (RdAt T35 a5 w14) fun x16 =>
    nwS 36 T35 [x16] w14 fun a17 w18 =>
    cl Try.prog 13 [tSlc.enc ((⟨some a17, 1, 1⟩ : Slc))] (tTup2 tSlc (tInt .i64)) w18 fun r20 w19 =>
    cl Try.prog 12 [] tBool w19 fun r22 w21 =>
    if (((!r22) || (r15.2 != (0 : Int))) || (r20.2 != (0 : Int))) = true then (
      cl Try.prog 12 [] tBool w21 fun r24 w23 =>
      R r24 w23
    ) else (
      ex (RdAt T35 a3 w21) fun x25 =>
      ex (RdAt T35 a5 w21) fun x26 =>
      cl Try.prog 19 [T35.enc (x25), T35.enc (x26)] tBool w21 fun r28 w27 =>
      dr w27 fun w29 =>
      ex (B2S r15.1 w29) fun s30 =>
      ex (B2S r20.1 w29) fun s31 =>
      ex (fun x => (((s30 == s31) == r28) && (!(r28 || (decide ((r15.1.len : Int) > (r20.1.len : Int)))))) = true → (Sub r20.1 1 0 (r15.1.len : Int) ((r20.1).cap : Int)) x) fun s32 =>
      ex (fun x => (((s30 == s31) == r28) && (!(r28 || (decide ((r15.1.len : Int) > (r20.1.len : Int)))))) = true → (B2S s32 w29) x) fun s33 =>
      ex (fun x => (((s30 == s31) == r28) && (!(r28 || (decide ((r15.1.len : Int) > (r20.1.len : Int)))))) = true → (B2S r15.1 w29) x) fun s34 =>
      R (((s30 == s31) == r28) && ((r28 || (decide ((r15.1.len : Int) > (r20.1.len : Int)))) || (!(s33 == s34)))) w29
    )
  )
theorem F9_ok {v_1 : S35} {w_2 : S35} {w : World} {R : Bool → World → Prop} (h : F9 v_1 w_2 w R) : cl Try.prog 9 [T35.enc (v_1), T35.enc (w_2)] tBool w R := by
  unfold F9 at h
  refine calls_start 74 Try.func9 rfl rfl (Nat.le_of_ble_eq_true rfl) ?_
  refine wp_seq ?_
  refine wp_text [0, 1, 2] rfl ?_
  obtain ⟨a3, w4, ha3, hw4, h⟩ := nw_open h
  refine ro_val (d := (some 2)) rfl (.free rfl) rfl (q_box (u := v_1) rfl ok36 rfl ha3 hw4) ?_
  obtain ⟨a5, w6, ha5, hw6, h⟩ := nw_open h
  refine ro_val (d := (some 3)) rfl (.free rfl) rfl (q_box (u := w_2) rfl ok36 rfl ha5 hw6) ?_
  refine ro_val (d := (some 4)) rfl (.free rfl) rfl (q_assign (v := .bool (false)) rfl rfl) ?_
  refine ro_nil ?_
  refine wp_seq ?_
  refine wp_seq ?_
  refine wp_text [0, 1, 2, 3, 4, 5, 6, 7, 8, 9] rfl ?_
  refine ro_val (d := (some 10)) rfl (.free rfl) rfl (q_fieldAddr (a := a3) (off := 4) rfl Try.underlying36 rfl rfl ok9 (by decide) rfl) ?_
  obtain ⟨x7, hx7, h⟩ := h
  refine ro_val (d := (some 11)) rfl (.free rfl) rfl (q_load (T := tStr) (u := x7) (a := (a3.add 4)) rfl ok9 rfl hx7) ?_
  refine ro_val (d := (some 12)) rfl (.free rfl) rfl (q_lenS (s := x7) rfl Try.underlying9 rfl) ?_
  refine ro_val (d := (some 13)) rfl (.free rfl) rfl (q_gtr (a := (x7.length : Int)) (b := (3000 : Int)) rfl rfl rfl) ?_
  refine ro_val (d := (some 14)) rfl (.free rfl) rfl (q_move (v := .bool ((decide ((x7.length : Int) > (3000 : Int))))) rfl rfl) ?_
  refine ro_gval (g := (!(decide ((x7.length : Int) > (3000 : Int))))) (d := (some 15)) rfl (.no 4 14 true (decide ((x7.length : Int) > (3000 : Int))) rfl rfl rfl rfl) rfl (fun hg => q_fieldAddr (a := a5) (off := 4) rfl Try.underlying36 rfl rfl ok9 (by decide) rfl) ?_
  obtain ⟨x8, hx8, h⟩ := h
  refine ro_gval (g := (!(decide ((x7.length : Int) > (3000 : Int))))) (d := (some 16)) rfl (.no 4 14 true (decide ((x7.length : Int) > (3000 : Int))) rfl rfl rfl rfl) rfl (fun hg => q_load (T := tStr) (u := x8) (a := (a5.add 4)) rfl ok9 (gvb_yes hg) (hx8 hg)) ?_
  refine ro_gval (g := (!(decide ((x7.length : Int) > (3000 : Int))))) (d := (some 17)) rfl (.no 4 14 true (decide ((x7.length : Int) > (3000 : Int))) rfl rfl rfl rfl) rfl (fun hg => q_lenS (s := x8) rfl Try.underlying9 (gvb_yes hg)) ?_
  refine ro_gval (g := (!(decide ((x7.length : Int) > (3000 : Int))))) (d := (some 18)) rfl (.no 4 14 true (decide ((x7.length : Int) > (3000 : Int))) rfl rfl rfl rfl) rfl (fun hg => q_gtr (a := (x8.length : Int)) (b := (3000 : Int)) rfl (gvb_yes hg) rfl) ?_
  refine ro_val (d := (some 19)) rfl (.free rfl) rfl (q_pickGF (a := (decide ((x7.length : Int) > (3000 : Int)))) (c := (decide ((x8.length : Int) > (3000 : Int)))) rfl rfl rfl rfl) ?_
  refine ro_nil ?_
  refine wp_if (b := ((decide ((x7.length : Int) > (3000 : Int))) || (decide ((x8.length : Int) > (3000 : Int))))) rfl h (fun hb36 h => ?_) (fun hb36 h => ?_)
  · refine wp_seq ?_
    refine wp_text [0, 1] rfl ?_
    refine ro_wp rfl (.free rfl) (wp_cl (d := (some 20)) rfl (q_call (k := 12) (l := []) rfl ent12 rfl) h ?_)
    intro r10 w9 h
    refine ro_val (d := (some 4)) rfl (.free rfl) rfl (q_assign (v := .bool (r10)) rfl rfl) ?_
    refine ro_nil ?_
    refine wp_ret ?_
    exact ret_ok rfl (.cons (.tmp (v := .bool (r10)) rfl) .nil) ⟨r10, rfl, h⟩
  · refine wp_skip ?_
    refine wp_seq ?_
    refine wp_text [0, 1, 2, 3, 4, 5, 6, 7] rfl ?_
    obtain ⟨x11, hx11, h⟩ := h
    refine ro_val (d := (some 22)) rfl (.free rfl) rfl (q_load (T := T35) (u := x11) (a := a3) rfl ok36 rfl hx11) ?_
    obtain ⟨a12, w13, ha12, hw13, h⟩ := nwS_open h
    refine ro_val (d := (some 23)) rfl (.free rfl) rfl (q_rowOf (T := T35) (xs := [x11]) rfl Try.underlying22 ok36 inf36 rfl (by decide) (by decide) rfl ha12 hw13) ?_
    refine ro_wp rfl (.free rfl) (wp_cl (d := (some 24)) rfl (q_call (k := 13) (l := [tSlc.enc ((⟨some a12, 1, 1⟩ : Slc))]) rfl ent13 rfl) h ?_)
    intro r15 w14 h
    refine ro_val (d := (some 21)) rfl (.free rfl) rfl (q_move (v := (tTup2 tSlc (tInt .i64)).enc (r15)) rfl rfl) ?_
    refine ro_val (d := (some 25)) rfl (.free rfl) rfl (q_extract (vs := #[tSlc.enc (r15.1), .int .i64 (r15.2)]) (v := tSlc.enc (r15.1)) rfl rfl rfl) ?_
    refine ro_val (d := (some 26)) rfl (.free rfl) rfl (q_extract (vs := #[tSlc.enc (r15.1), .int .i64 (r15.2)]) (v := .int .i64 (r15.2)) rfl rfl rfl) ?_
    refine ro_val (d := (some 5)) rfl (.free rfl) rfl (q_assign (v := tSlc.enc (r15.1)) rfl rfl) ?_
    refine ro_val (d := (some 6)) rfl (.free rfl) rfl (q_assign (v := .int .i64 (r15.2)) rfl rfl) ?_
    refine ro_nil ?_
    refine wp_seq ?_
    refine wp_text [0, 1, 2, 3, 4, 5, 6, 7] rfl ?_
    obtain ⟨x16, hx16, h⟩ := h
    refine ro_val (d := (some 28)) rfl (.free rfl) rfl (q_load (T := T35) (u := x16) (a := a5) rfl ok36 rfl hx16) ?_
    obtain ⟨a17, w18, ha17, hw18, h⟩ := nwS_open h
    refine ro_val (d := (some 29)) rfl (.free rfl) rfl (q_rowOf (T := T35) (xs := [x16]) rfl Try.underlying22 ok36 inf36 rfl (by decide) (by decide) rfl ha17 hw18) ?_
    refine ro_wp rfl (.free rfl) (wp_cl (d := (some 30)) rfl (q_call (k := 13) (l := [tSlc.enc ((⟨some a17, 1, 1⟩ : Slc))]) rfl ent13 rfl) h ?_)
    intro r20 w19 h
    refine ro_val (d := (some 27)) rfl (.free rfl) rfl (q_move (v := (tTup2 tSlc (tInt .i64)).enc (r20)) rfl rfl) ?_
    refine ro_val (d := (some 31)) rfl (.free rfl) rfl (q_extract (vs := #[tSlc.enc (r20.1), .int .i64 (r20.2)]) (v := tSlc.enc (r20.1)) rfl rfl rfl) ?_
    refine ro_val (d := (some 32)) rfl (.free rfl) rfl (q_extract (vs := #[tSlc.enc (r20.1), .int .i64 (r20.2)]) (v := .int .i64 (r20.2)) rfl rfl rfl) ?_
    refine ro_val (d := (some 7)) rfl (.free rfl) rfl (q_assign (v := tSlc.enc (r20.1)) rfl rfl) ?_
    refine ro_val (d := (some 8)) rfl (.free rfl) rfl (q_assign (v := .int .i64 (r20.2)) rfl rfl) ?_
    refine ro_nil ?_
    refine wp_seq ?_
    refine wp_seq ?_
    refine wp_text [0, 1, 2, 3, 4, 5, 6, 7, 8, 9] rfl ?_
    refine ro_wp rfl (.free rfl) (wp_cl (d := (some 33)) rfl (q_call (k := 12) (l := []) rfl ent12 rfl) h ?_)
    intro r22 w21 h
    refine ro_val (d := (some 34)) rfl (.free rfl) rfl (q_not (b := r22) rfl rfl) ?_
    refine ro_val (d := (some 35)) rfl (.free rfl) rfl (q_move (v := .bool ((!r22))) rfl rfl) ?_
    refine ro_gval (g := (!(!r22))) (d := (some 36)) rfl (.no 2 35 true (!r22) rfl rfl rfl rfl) rfl (fun hg => q_move (v := .int .i64 (r15.2)) rfl rfl) ?_
    refine ro_gval (g := (!(!r22))) (d := (some 37)) rfl (.no 2 35 true (!r22) rfl rfl rfl rfl) rfl (fun hg => q_neq (a := r15.2) (b := (0 : Int)) rfl (gvb_yes hg) rfl) ?_
    refine ro_val (d := (some 38)) rfl (.free rfl) rfl (q_pickGF (a := (!r22)) (c := (r15.2 != (0 : Int))) rfl rfl rfl rfl) ?_
    refine ro_val (d := (some 39)) rfl (.free rfl) rfl (q_move (v := .bool (((!r22) || (r15.2 != (0 : Int))))) rfl rfl) ?_
    refine ro_gval (g := (!((!r22) || (r15.2 != (0 : Int))))) (d := (some 40)) rfl (.no 6 39 true ((!r22) || (r15.2 != (0 : Int))) rfl rfl rfl rfl) rfl (fun hg => q_move (v := .int .i64 (r20.2)) rfl rfl) ?_
    refine ro_gval (g := (!((!r22) || (r15.2 != (0 : Int))))) (d := (some 41)) rfl (.no 6 39 true ((!r22) || (r15.2 != (0 : Int))) rfl rfl rfl rfl) rfl (fun hg => q_neq (a := r20.2) (b := (0 : Int)) rfl (gvb_yes hg) rfl) ?_
    refine ro_val (d := (some 42)) rfl (.free rfl) rfl (q_pickGF (a := ((!r22) || (r15.2 != (0 : Int)))) (c := (r20.2 != (0 : Int))) rfl rfl rfl rfl) ?_
    refine ro_nil ?_
    refine wp_if (b := (((!r22) || (r15.2 != (0 : Int))) || (r20.2 != (0 : Int)))) rfl h (fun hb35 h => ?_) (fun hb35 h => ?_)
    · refine wp_seq ?_
      refine wp_text [0, 1] rfl ?_
      refine ro_wp rfl (.free rfl) (wp_cl (d := (some 43)) rfl (q_call (k := 12) (l := []) rfl ent12 rfl) h ?_)
      intro r24 w23 h
      refine ro_val (d := (some 4)) rfl (.free rfl) rfl (q_assign (v := .bool (r24)) rfl rfl) ?_
      refine ro_nil ?_
      refine wp_ret ?_
      exact ret_ok rfl (.cons (.tmp (v := .bool (r24)) rfl) .nil) ⟨r24, rfl, h⟩
    · refine wp_skip ?_
      refine wp_seq ?_
      refine wp_text [0, 1, 2, 3] rfl ?_
      obtain ⟨x25, hx25, h⟩ := h
      refine ro_val (d := (some 44)) rfl (.free rfl) rfl (q_load (T := T35) (u := x25) (a := a3) rfl ok36 rfl hx25) ?_
      obtain ⟨x26, hx26, h⟩ := h
      refine ro_val (d := (some 45)) rfl (.free rfl) rfl (q_load (T := T35) (u := x26) (a := a5) rfl ok36 rfl hx26) ?_
      refine ro_wp rfl (.free rfl) (wp_cl (d := (some 46)) rfl (q_call (k := 19) (l := [T35.enc (x25), T35.enc (x26)]) rfl ent19 rfl) h ?_)
      intro r28 w27 h
      refine ro_val (d := (some 9)) rfl (.free rfl) rfl (q_assign (v := .bool (r28)) rfl rfl) ?_
      refine ro_nil ?_
      refine wp_seq ?_
      obtain ⟨w29, hw29, h⟩ := dr_open h
      refine wp_drawn 28 mixed rfl (by kernel_rfl) (by intro c a d v w h; cases d <;> exact h) hw29 (fun hD => ?_)
      refine rd_pure (i := 0) (d := (some 47)) hD (by kernel_rfl) (by kernel_rfl) rfl (.free rfl) rfl (fun _ => q_move (v := tSlc.enc (r15.1)) rfl rfl) ?_
      refine rd_pure (i := 2) (d := (some 49)) hD (by kernel_rfl) (by kernel_rfl) rfl (.free rfl) rfl (fun _ => q_move (v := tSlc.enc (r20.1)) rfl rfl) ?_
      refine rd_pure (i := 5) (d := (some 52)) hD (by kernel_rfl) (by kernel_rfl) rfl (.free rfl) rfl (fun _ => q_move (v := .bool (r28)) rfl rfl) ?_
      obtain ⟨s30, hs30, h⟩ := h
      refine rd_read (i := 1) (d := (some 48)) (fun W => (B2S r15.1 W) s30) hD (by kernel_rfl) (by kernel_rfl) rfl (.free rfl) rfl (fun W hr => q_b2s (b := r15.1) (r := s30) rfl Try.underlying25 Try.underlying5 Try.underlying9 rfl hr) hs30 ?_
      obtain ⟨s31, hs31, h⟩ := h
      refine rd_read (i := 3) (d := (some 50)) (fun W => (B2S r20.1 W) s31) hD (by kernel_rfl) (by kernel_rfl) rfl (.free rfl) rfl (fun W hr => q_b2s (b := r20.1) (r := s31) rfl Try.underlying25 Try.underlying5 Try.underlying9 rfl hr) hs31 ?_
      refine rd_pure (i := 4) (d := (some 51)) hD (by kernel_rfl) (by kernel_rfl) rfl (.free rfl) rfl (fun _ => q_eqS (a := s30) (b := s31) rfl rfl rfl) ?_
      refine rd_pure (i := 6) (d := (some 53)) hD (by kernel_rfl) (by kernel_rfl) rfl (.free rfl) rfl (fun _ => q_eqB (a := (s30 == s31)) (b := r28) rfl Try.underlying4 rfl rfl) ?_
      refine rd_pure (i := 7) (d := (some 54)) hD (by kernel_rfl) (by kernel_rfl) rfl (.free rfl) rfl (fun _ => q_move (v := .bool (((s30 == s31) == r28))) rfl rfl) ?_
      refine rd_gpure (i := 8) (g := ((s30 == s31) == r28)) (d := (some 55)) hD (by kernel_rfl) (by kernel_rfl) rfl (.yes 7 54 true ((s30 == s31) == r28) rfl rfl rfl rfl) rfl (fun hg _ => q_move (v := .bool (r28)) rfl rfl) ?_
      refine rd_gpure (i := 9) (g := ((s30 == s31) == r28)) (d := (some 56)) hD (by kernel_rfl) (by kernel_rfl) rfl (.yes 7 54 true ((s30 == s31) == r28) rfl rfl rfl rfl) rfl (fun hg _ => q_move (v := .bool (r28)) rfl (gvb_yes hg)) ?_
      refine rd_gpure (i := 10) (g := (((s30 == s31) == r28) && (!r28))) (d := (some 57)) hD (by kernel_rfl) (by kernel_rfl) rfl (.no 9 56 ((s30 == s31) == r28) r28 rfl rfl rfl rfl) rfl (fun hg _ => q_move (v := tSlc.enc (r15.1)) rfl rfl) ?_
      refine rd_gpure (i := 11) (g := (((s30 == s31) == r28) && (!r28))) (d := (some 58)) hD (by kernel_rfl) (by kernel_rfl) rfl (.no 9 56 ((s30 == s31) == r28) r28 rfl rfl rfl rfl) rfl (fun hg _ => q_len (s := r15.1) rfl Try.underlying25 (gvb_yes hg)) ?_
      refine rd_gpure (i := 12) (g := (((s30 == s31) == r28) && (!r28))) (d := (some 59)) hD (by kernel_rfl) (by kernel_rfl) rfl (.no 9 56 ((s30 == s31) == r28) r28 rfl rfl rfl rfl) rfl (fun hg _ => q_move (v := tSlc.enc (r20.1)) rfl rfl) ?_
      refine rd_gpure (i := 13) (g := (((s30 == s31) == r28) && (!r28))) (d := (some 60)) hD (by kernel_rfl) (by kernel_rfl) rfl (.no 9 56 ((s30 == s31) == r28) r28 rfl rfl rfl rfl) rfl (fun hg _ => q_len (s := r20.1) rfl Try.underlying25 (gvb_yes hg)) ?_
      refine rd_gpure (i := 14) (g := (((s30 == s31) == r28) && (!r28))) (d := (some 61)) hD (by kernel_rfl) (by kernel_rfl) rfl (.no 9 56 ((s30 == s31) == r28) r28 rfl rfl rfl rfl) rfl (fun hg _ => q_gtr (a := (r15.1.len : Int)) (b := (r20.1.len : Int)) rfl (gvb_yes hg) (gvb_yes hg)) ?_
      refine rd_gpure (i := 15) (g := ((s30 == s31) == r28)) (d := (some 62)) hD (by kernel_rfl) (by kernel_rfl) rfl (.yes 7 54 true ((s30 == s31) == r28) rfl rfl rfl rfl) rfl (fun hg _ => q_pickNF (g0 := ((s30 == s31) == r28)) (a := r28) (c := (decide ((r15.1.len : Int) > (r20.1.len : Int)))) hg rfl rfl rfl rfl) ?_
      refine rd_gpure (i := 16) (g := ((s30 == s31) == r28)) (d := (some 63)) hD (by kernel_rfl) (by kernel_rfl) rfl (.yes 7 54 true ((s30 == s31) == r28) rfl rfl rfl rfl) rfl (fun hg _ => q_move (v := .bool ((r28 || (decide ((r15.1.len : Int) > (r20.1.len : Int)))))) rfl (gvb_yes hg)) ?_
      refine rd_gpure (i := 17) (g := (((s30 == s31) == r28) && (!(r28 || (decide ((r15.1.len : Int) > (r20.1.len : Int))))))) (d := (some 64)) hD (by kernel_rfl) (by kernel_rfl) rfl (.no 16 63 ((s30 == s31) == r28) (r28 || (decide ((r15.1.len : Int) > (r20.1.len : Int)))) rfl rfl rfl rfl) rfl (fun hg _ => q_move (v := tSlc.enc (r20.1)) rfl rfl) ?_
      refine rd_gpure (i := 18) (g := (((s30 == s31) == r28) && (!(r28 || (decide ((r15.1.len : Int) > (r20.1.len : Int))))))) (d := (some 65)) hD (by kernel_rfl) (by kernel_rfl) rfl (.no 16 63 ((s30 == s31) == r28) (r28 || (decide ((r15.1.len : Int) > (r20.1.len : Int)))) rfl rfl rfl rfl) rfl (fun hg _ => q_move (v := tSlc.enc (r15.1)) rfl rfl) ?_
      refine rd_gpure (i := 19) (g := (((s30 == s31) == r28) && (!(r28 || (decide ((r15.1.len : Int) > (r20.1.len : Int))))))) (d := (some 66)) hD (by kernel_rfl) (by kernel_rfl) rfl (.no 16 63 ((s30 == s31) == r28) (r28 || (decide ((r15.1.len : Int) > (r20.1.len : Int)))) rfl rfl rfl rfl) rfl (fun hg _ => q_len (s := r15.1) rfl Try.underlying25 (gvb_yes hg)) ?_
      obtain ⟨s32, hs32, h⟩ := h
      refine rd_gpure (i := 20) (g := (((s30 == s31) == r28) && (!(r28 || (decide ((r15.1.len : Int) > (r20.1.len : Int))))))) (d := (some 67)) hD (by kernel_rfl) (by kernel_rfl) rfl (.no 16 63 ((s30 == s31) == r28) (r28 || (decide ((r15.1.len : Int) > (r20.1.len : Int)))) rfl rfl rfl rfl) rfl (fun hg _ => q_sliceH (s := r20.1) (h := (r15.1.len : Int)) rfl Try.underlying25 ok5 (gvb_yes hg) (gvb_yes hg) (hs32 hg)) ?_
      refine rd_gpure (i := 22) (g := (((s30 == s31) == r28) && (!(r28 || (decide ((r15.1.len : Int) > (r20.1.len : Int))))))) (d := (some 69)) hD (by kernel_rfl) (by kernel_rfl) rfl (.no 16 63 ((s30 == s31) == r28) (r28 || (decide ((r15.1.len : Int) > (r20.1.len : Int)))) rfl rfl rfl rfl) rfl (fun hg _ => q_move (v := tSlc.enc (r15.1)) rfl rfl) ?_
      obtain ⟨s33, hs33, h⟩ := h
      refine rd_gread (i := 21) (g := (((s30 == s31) == r28) && (!(r28 || (decide ((r15.1.len : Int) > (r20.1.len : Int))))))) (d := (some 68)) (fun W => (B2S s32 W) s33) hD (by kernel_rfl) (by kernel_rfl) rfl (.no 16 63 ((s30 == s31) == r28) (r28 || (decide ((r15.1.len : Int) > (r20.1.len : Int)))) rfl rfl rfl rfl) rfl (fun hg W hr => q_b2s (b := s32) (r := s33) rfl Try.underlying25 Try.underlying5 Try.underlying9 (gvb_yes hg) hr) hs33 ?_
      obtain ⟨s34, hs34, h⟩ := h
      refine rd_gread (i := 23) (g := (((s30 == s31) == r28) && (!(r28 || (decide ((r15.1.len : Int) > (r20.1.len : Int))))))) (d := (some 70)) (fun W => (B2S r15.1 W) s34) hD (by kernel_rfl) (by kernel_rfl) rfl (.no 16 63 ((s30 == s31) == r28) (r28 || (decide ((r15.1.len : Int) > (r20.1.len : Int)))) rfl rfl rfl rfl) rfl (fun hg W hr => q_b2s (b := r15.1) (r := s34) rfl Try.underlying25 Try.underlying5 Try.underlying9 (gvb_yes hg) hr) hs34 ?_
      refine rd_gpure (i := 24) (g := (((s30 == s31) == r28) && (!(r28 || (decide ((r15.1.len : Int) > (r20.1.len : Int))))))) (d := (some 71)) hD (by kernel_rfl) (by kernel_rfl) rfl (.no 16 63 ((s30 == s31) == r28) (r28 || (decide ((r15.1.len : Int) > (r20.1.len : Int)))) rfl rfl rfl rfl) rfl (fun hg _ => q_neS (a := s33) (b := s34) rfl (gvb_yes hg) (gvb_yes hg)) ?_
      refine rd_gpure (i := 25) (g := ((s30 == s31) == r28)) (d := (some 72)) hD (by kernel_rfl) (by kernel_rfl) rfl (.yes 7 54 true ((s30 == s31) == r28) rfl rfl rfl rfl) rfl (fun hg _ => q_pickNF (g0 := ((s30 == s31) == r28)) (a := (r28 || (decide ((r15.1.len : Int) > (r20.1.len : Int))))) (c := (!(s33 == s34))) hg rfl rfl rfl rfl) ?_
      refine rd_pure (i := 26) (d := (some 73)) hD (by kernel_rfl) (by kernel_rfl) rfl (.free rfl) rfl (fun _ => q_pickGT (a := ((s30 == s31) == r28)) (b := ((r28 || (decide ((r15.1.len : Int) > (r20.1.len : Int)))) || (!(s33 == s34)))) rfl rfl rfl rfl) ?_
      refine rd_pure (i := 27) (d := (some 4)) hD (by kernel_rfl) (by kernel_rfl) rfl (.free rfl) rfl (fun _ => q_assign (v := .bool ((((s30 == s31) == r28) && ((r28 || (decide ((r15.1.len : Int) > (r20.1.len : Int)))) || (!(s33 == s34)))))) rfl rfl) ?_
      refine rd_nil (by kernel_rfl) ?_
      refine wp_ret ?_
      exact ret_ok rfl (.cons (.tmp (v := .bool ((((s30 == s31) == r28) && ((r28 || (decide ((r15.1.len : Int) > (r20.1.len : Int)))) || (!(s33 == s34)))))) rfl) .nil) ⟨(((s30 == s31) == r28) && ((r28 || (decide ((r15.1.len : Int) > (r20.1.len : Int)))) || (!(s33 == s34)))), rfl, h⟩

-- moiety/moietylaw02.WireOwn
def F10_j4 (t_32 : Bool) (w33 : World) (R : Bool → World → Prop) : Prop :=
  R t_32 w33
def F10_j3 (l_1 : Slc) (r17 : (Slc × Int × Int)) (t_30 : Bool) (w31 : World) (R : Bool → World → Prop) : Prop :=
  if t_30 = true then (
    cl Try.prog 15 [tSlc.enc (r17.1), tSlc.enc (l_1)] tBool w31 fun r36 w35 =>
    F10_j4 r36 w35 R
  ) else (
    F10_j4 false w31 R
  )
def F10_l2 (l_1 : Slc) (r9 : (Slc × Int)) (r15 : (Slc × Int × Int)) (r17 : (Slc × Int × Int)) (i_23 : Int) (w24 : World) (K25 : Int → World → Prop) (R : Bool → World → Prop) : Prop :=
  if (decide (i_23 < (r15.1.len : Int))) = true then (
    ex (IxA r15.1 5 i_23) fun a26 =>
    st T35 a26 (⟨(0 : Int), (0 : Int), (0 : Int), (0 : Nat), ([] : List UInt8)⟩ : S35) w24 fun w27 =>
    K25 ((IntKind.i64.wrap (i_23 + (1 : Int)))) w27
  ) else (
    cl Try.prog 18 [tSlc.enc (r9.1)] (tTup3 tSlc (tInt .i64) (tInt .i64)) w24 fun r29 w28 =>
    if (r29.2.2 == (0 : Int)) = true then (
      cl Try.prog 15 [tSlc.enc (r29.1), tSlc.enc (l_1)] tBool w28 fun r39 w38 =>
      F10_j3 l_1 r17 r39 w38 R
    ) else (
      F10_j3 l_1 r17 false w28 R
    )
  )
def F10_l1 (l_1 : Slc) (r7 : (Slc × Int)) (r9 : (Slc × Int)) (r15 : (Slc × Int × Int)) (r17 : (Slc × Int × Int)) (i_18 : Int) (w19 : World) (K20 : Int → World → Prop) (R : Bool → World → Prop) : Prop :=
  if (decide (i_18 < (r7.1.len : Int))) = true then (
    ex (IxA r7.1 1 i_18) fun a21 =>
    st (tInt .u8) a21 (255 : Int) w19 fun w22 =>
    K20 ((IntKind.i64.wrap (i_18 + (1 : Int)))) w22
  ) else (
    lp (fun (s : Int) w K => F10_l2 l_1 r9 r15 r17 s w K R) ((0 : Int)) w19
  )
def F10 (l_1 : Slc) (w : World) (R : Bool → World → Prop) : Prop :=
  cl Try.prog 11 [tSlc.enc (l_1)] tBool w fun r3 w2 =>
  if (!r3) = true then (
    cl Try.prog 12 [] tBool w2 fun r5 w4 =>
    R r5 w4
  ) else (
    cl Try.prog 13 [tSlc.enc (l_1)] (tTup2 tSlc (tInt .i64)) w2 fun r7 w6 =>
    cl Try.prog 13 [tSlc.enc (l_1)] (tTup2 tSlc (tInt .i64)) w6 fun r9 w8 =>
    cl Try.prog 12 [] tBool w8 fun r11 w10 =>
    if (((!r11) || (r7.2 != r9.2)) || (r7.2 != (0 : Int))) = true then (
      cl Try.prog 12 [] tBool w10 fun r13 w12 =>
      R (r13 && (r7.2 == r9.2)) w12
    ) else (
      cl Try.prog 18 [tSlc.enc (r7.1)] (tTup3 tSlc (tInt .i64) (tInt .i64)) w10 fun r15 w14 =>
      cl Try.prog 18 [tSlc.enc (r7.1)] (tTup3 tSlc (tInt .i64) (tInt .i64)) w14 fun r17 w16 =>
      lp (fun (s : Int) w K => F10_l1 l_1 r7 r9 r15 r17 s w K R) ((0 : Int)) w16
    )
  )
theorem F10_ok {l_1 : Slc} {w : World} {R : Bool → World → Prop} (h : F10 l_1 w R) : cl Try.prog 10 [tSlc.enc (l_1)] tBool w R := by
  unfold F10 at h
  refine calls_start 98 Try.func10 rfl rfl (Nat.le_of_ble_eq_true rfl) ?_
  refine wp_seq ?_
  refine wp_text [0] rfl ?_
  refine ro_val (d := (some 2)) rfl (.free rfl) rfl (q_assign (v := .bool (false)) rfl rfl) ?_
  refine ro_nil ?_
  refine wp_seq ?_
  refine wp_seq ?_
  refine wp_text [0, 1, 2] rfl ?_
  refine ro_val (d := (some 18)) rfl (.free rfl) rfl (q_move (v := tSlc.enc (l_1)) rfl rfl) ?_
  refine ro_wp rfl (.free rfl) (wp_cl (d := (some 19)) rfl (q_call (k := 11) (l := [tSlc.enc (l_1)]) rfl ent11 rfl) h ?_)
  intro r3 w2 h
  refine ro_val (d := (some 20)) rfl (.free rfl) rfl (q_not (b := r3) rfl rfl) ?_
  refine ro_nil ?_
  refine wp_if (b := (!r3)) rfl h (fun hb43 h => ?_) (fun hb43 h => ?_)
  · refine wp_seq ?_
    refine wp_text [0, 1] rfl ?_
    refine ro_wp rfl (.free rfl) (wp_cl (d := (some 21)) rfl (q_call (k := 12) (l := []) rfl ent12 rfl) h ?_)
    intro r5 w4 h
    refine ro_val (d := (some 2)) rfl (.free rfl) rfl (q_assign (v := .bool (r5)) rfl rfl) ?_
    refine ro_nil ?_
    refine wp_ret ?_
    exact ret_ok rfl (.cons (.tmp (v := .bool (r5)) rfl) .nil) ⟨r5, rfl, h⟩
  · refine wp_skip ?_
    refine wp_seq ?_
    refine wp_text [0, 1, 2, 3, 4, 5, 6] rfl ?_
    refine ro_val (d := (some 23)) rfl (.free rfl) rfl (q_move (v := tSlc.enc (l_1)) rfl rfl) ?_
    refine ro_wp rfl (.free rfl) (wp_cl (d := (some 24)) rfl (q_call (k := 13) (l := [tSlc.enc (l_1)]) rfl ent13 rfl) h ?_)
    intro r7 w6 h
    refine ro_val (d := (some 22)) rfl (.free rfl) rfl (q_move (v := (tTup2 tSlc (tInt .i64)).enc (r7)) rfl rfl) ?_
    refine ro_val (d := (some 25)) rfl (.free rfl) rfl (q_extract (vs := #[tSlc.enc (r7.1), .int .i64 (r7.2)]) (v := tSlc.enc (r7.1)) rfl rfl rfl) ?_
    refine ro_val (d := (some 26)) rfl (.free rfl) rfl (q_extract (vs := #[tSlc.enc (r7.1), .int .i64 (r7.2)]) (v := .int .i64 (r7.2)) rfl rfl rfl) ?_
    refine ro_val (d := (some 3)) rfl (.free rfl) rfl (q_assign (v := tSlc.enc (r7.1)) rfl rfl) ?_
    refine ro_val (d := (some 4)) rfl (.free rfl) rfl (q_assign (v := .int .i64 (r7.2)) rfl rfl) ?_
    refine ro_nil ?_
    refine wp_seq ?_
    refine wp_text [0, 1, 2, 3, 4, 5, 6] rfl ?_
    refine ro_val (d := (some 28)) rfl (.free rfl) rfl (q_move (v := tSlc.enc (l_1)) rfl rfl) ?_
    refine ro_wp rfl (.free rfl) (wp_cl (d := (some 29)) rfl (q_call (k := 13) (l := [tSlc.enc (l_1)]) rfl ent13 rfl) h ?_)
    intro r9 w8 h
    refine ro_val (d := (some 27)) rfl (.free rfl) rfl (q_move (v := (tTup2 tSlc (tInt .i64)).enc (r9)) rfl rfl) ?_
    refine ro_val (d := (some 30)) rfl (.free rfl) rfl (q_extract (vs := #[tSlc.enc (r9.1), .int .i64 (r9.2)]) (v := tSlc.enc (r9.1)) rfl rfl rfl) ?_
    refine ro_val (d := (some 31)) rfl (.free rfl) rfl (q_extract (vs := #[tSlc.enc (r9.1), .int .i64 (r9.2)]) (v := .int .i64 (r9.2)) rfl rfl rfl) ?_
    refine ro_val (d := (some 5)) rfl (.free rfl) rfl (q_assign (v := tSlc.enc (r9.1)) rfl rfl) ?_
    refine ro_val (d := (some 6)) rfl (.free rfl) rfl (q_assign (v := .int .i64 (r9.2)) rfl rfl) ?_
    refine ro_nil ?_
    refine wp_seq ?_
    refine wp_seq ?_
    refine wp_text [0, 1, 2, 3, 4, 5, 6, 7, 8, 9, 10] rfl ?_
    refine ro_wp rfl (.free rfl) (wp_cl (d := (some 32)) rfl (q_call (k := 12) (l := []) rfl ent12 rfl) h ?_)
    intro r11 w10 h
    refine ro_val (d := (some 33)) rfl (.free rfl) rfl (q_not (b := r11) rfl rfl) ?_
    refine ro_val (d := (some 34)) rfl (.free rfl) rfl (q_move (v := .bool ((!r11))) rfl rfl) ?_
    refine ro_gval (g := (!(!r11))) (d := (some 35)) rfl (.no 2 34 true (!r11) rfl rfl rfl rfl) rfl (fun hg => q_move (v := .int .i64 (r7.2)) rfl rfl) ?_
    refine ro_gval (g := (!(!r11))) (d := (some 36)) rfl (.no 2 34 true (!r11) rfl rfl rfl rfl) rfl (fun hg => q_move (v := .int .i64 (r9.2)) rfl rfl) ?_
    refine ro_gval (g := (!(!r11))) (d := (some 37)) rfl (.no 2 34 true (!r11) rfl rfl rfl rfl) rfl (fun hg => q_neq (a := r7.2) (b := r9.2) rfl (gvb_yes hg) (gvb_yes hg)) ?_
    refine ro_val (d := (some 38)) rfl (.free rfl) rfl (q_pickGF (a := (!r11)) (c := (r7.2 != r9.2)) rfl rfl rfl rfl) ?_
    refine ro_val (d := (some 39)) rfl (.free rfl) rfl (q_move (v := .bool (((!r11) || (r7.2 != r9.2)))) rfl rfl) ?_
    refine ro_gval (g := (!((!r11) || (r7.2 != r9.2)))) (d := (some 40)) rfl (.no 7 39 true ((!r11) || (r7.2 != r9.2)) rfl rfl rfl rfl) rfl (fun hg => q_move (v := .int .i64 (r7.2)) rfl rfl) ?_
    refine ro_gval (g := (!((!r11) || (r7.2 != r9.2)))) (d := (some 41)) rfl (.no 7 39 true ((!r11) || (r7.2 != r9.2)) rfl rfl rfl rfl) rfl (fun hg => q_neq (a := r7.2) (b := (0 : Int)) rfl (gvb_yes hg) rfl) ?_
    refine ro_val (d := (some 42)) rfl (.free rfl) rfl (q_pickGF (a := ((!r11) || (r7.2 != r9.2))) (c := (r7.2 != (0 : Int))) rfl rfl rfl rfl) ?_
    refine ro_nil ?_
    refine wp_if (b := (((!r11) || (r7.2 != r9.2)) || (r7.2 != (0 : Int)))) rfl h (fun hb42 h => ?_) (fun hb42 h => ?_)
    · refine wp_seq ?_
      refine wp_text [0, 1, 2, 3, 4, 5, 6] rfl ?_
      refine ro_wp rfl (.free rfl) (wp_cl (d := (some 43)) rfl (q_call (k := 12) (l := []) rfl ent12 rfl) h ?_)
      intro r13 w12 h
      refine ro_val (d := (some 44)) rfl (.free rfl) rfl (q_move (v := .bool (r13)) rfl rfl) ?_
      refine ro_gval (g := r13) (d := (some 45)) rfl (.yes 1 44 true r13 rfl rfl rfl rfl) rfl (fun hg => q_move (v := .int .i64 (r7.2)) rfl rfl) ?_
      refine ro_gval (g := r13) (d := (some 46)) rfl (.yes 1 44 true r13 rfl rfl rfl rfl) rfl (fun hg => q_move (v := .int .i64 (r9.2)) rfl rfl) ?_
      refine ro_gval (g := r13) (d := (some 47)) rfl (.yes 1 44 true r13 rfl rfl rfl rfl) rfl (fun hg => q_eql (a := r7.2) (b := r9.2) rfl (gvb_yes hg) (gvb_yes hg)) ?_
      refine ro_val (d := (some 48)) rfl (.free rfl) rfl (q_pickGT (a := r13) (b := (r7.2 == r9.2)) rfl rfl rfl rfl) ?_
      refine ro_val (d := (some 2)) rfl (.free rfl) rfl (q_assign (v := .bool ((r13 && (r7.2 == r9.2)))) rfl rfl) ?_
      refine ro_nil ?_
      refine wp_ret ?_
      exact ret_ok rfl (.cons (.tmp (v := .bool ((r13 && (r7.2 == r9.2)))) rfl) .nil) ⟨(r13 && (r7.2 == r9.2)), rfl, h⟩
    · refine wp_skip ?_
      refine wp_seq ?_
      refine wp_text [0, 1, 2, 3, 4, 5, 6, 7, 8] rfl ?_
      refine ro_val (d := (some 50)) rfl (.free rfl) rfl (q_move (v := tSlc.enc (r7.1)) rfl rfl) ?_
      refine ro_wp rfl (.free rfl) (wp_cl (d := (some 51)) rfl (q_call (k := 18) (l := [tSlc.enc (r7.1)]) rfl ent18 rfl) h ?_)
      intro r15 w14 h
      refine ro_val (d := (some 49)) rfl (.free rfl) rfl (q_move (v := (tTup3 tSlc (tInt .i64) (tInt .i64)).enc (r15)) rfl rfl) ?_
      refine ro_val (d := (some 52)) rfl (.free rfl) rfl (q_extract (vs := #[tSlc.enc (r15.1), .int .i64 (r15.2.1), .int .i64 (r15.2.2)]) (v := tSlc.enc (r15.1)) rfl rfl rfl) ?_
      refine ro_val (d := (some 53)) rfl (.free rfl) rfl (q_extract (vs := #[tSlc.enc (r15.1), .int .i64 (r15.2.1), .int .i64 (r15.2.2)]) (v := .int .i64 (r15.2.1)) rfl rfl rfl) ?_
      refine ro_val (d := (some 54)) rfl (.free rfl) rfl (q_extract (vs := #[tSlc.enc (r15.1), .int .i64 (r15.2.1), .int .i64 (r15.2.2)]) (v := .int .i64 (r15.2.2)) rfl rfl rfl) ?_
      refine ro_val (d := (some 7)) rfl (.free rfl) rfl (q_assign (v := tSlc.enc (r15.1)) rfl rfl) ?_
      refine ro_val (d := (some 8)) rfl (.free rfl) rfl (q_assign (v := .int .i64 (r15.2.1)) rfl rfl) ?_
      refine ro_val (d := (some 9)) rfl (.free rfl) rfl (q_assign (v := .int .i64 (r15.2.2)) rfl rfl) ?_
      refine ro_nil ?_
      refine wp_seq ?_
      refine wp_text [0, 1, 2, 3, 4, 5, 6, 7, 8] rfl ?_
      refine ro_val (d := (some 56)) rfl (.free rfl) rfl (q_move (v := tSlc.enc (r7.1)) rfl rfl) ?_
      refine ro_wp rfl (.free rfl) (wp_cl (d := (some 57)) rfl (q_call (k := 18) (l := [tSlc.enc (r7.1)]) rfl ent18 rfl) h ?_)
      intro r17 w16 h
      refine ro_val (d := (some 55)) rfl (.free rfl) rfl (q_move (v := (tTup3 tSlc (tInt .i64) (tInt .i64)).enc (r17)) rfl rfl) ?_
      refine ro_val (d := (some 58)) rfl (.free rfl) rfl (q_extract (vs := #[tSlc.enc (r17.1), .int .i64 (r17.2.1), .int .i64 (r17.2.2)]) (v := tSlc.enc (r17.1)) rfl rfl rfl) ?_
      refine ro_val (d := (some 59)) rfl (.free rfl) rfl (q_extract (vs := #[tSlc.enc (r17.1), .int .i64 (r17.2.1), .int .i64 (r17.2.2)]) (v := .int .i64 (r17.2.1)) rfl rfl rfl) ?_
      refine ro_val (d := (some 60)) rfl (.free rfl) rfl (q_extract (vs := #[tSlc.enc (r17.1), .int .i64 (r17.2.1), .int .i64 (r17.2.2)]) (v := .int .i64 (r17.2.2)) rfl rfl rfl) ?_
      refine ro_val (d := (some 10)) rfl (.free rfl) rfl (q_assign (v := tSlc.enc (r17.1)) rfl rfl) ?_
      refine ro_val (d := (some 11)) rfl (.free rfl) rfl (q_assign (v := .int .i64 (r17.2.1)) rfl rfl) ?_
      refine ro_val (d := (some 12)) rfl (.free rfl) rfl (q_assign (v := .int .i64 (r17.2.2)) rfl rfl) ?_
      refine ro_nil ?_
      refine wp_seq ?_
      refine wp_seq ?_
      refine wp_text [0] rfl ?_
      refine ro_val (d := (some 13)) rfl (.free rfl) rfl (q_assign (v := .int .i64 ((0 : Int))) rfl rfl) ?_
      refine ro_nil ?_
      refine wp_block ?_
      refine loop_at (σ := Int) (fr := fun g (s : Int) => upd (upd (upd (upd (upd (upd (g) 0 (tSlc.enc (l_1))) 3 (tSlc.enc (r7.1))) 5 (tSlc.enc (r9.1))) 7 (tSlc.enc (r15.1))) 10 (tSlc.enc (r17.1))) 13 (.int .i64 (s))) (s0 := ((0 : Int))) (upd_step (upd_step (upd_step (upd_step (upd_step (upd_step rfl rfl) rfl) rfl) rfl) rfl) rfl) h ?_
      rintro i_18 g w19 K20 h
      unfold F10_l1 at h
      refine wp_seq ?_
      refine wp_seq ?_
      refine wp_text [0, 1, 2, 3] rfl ?_
      refine ro_val (d := (some 61)) rfl (.free rfl) rfl (q_move (v := .int .i64 (i_18)) rfl rfl) ?_
      refine ro_val (d := (some 62)) rfl (.free rfl) rfl (q_move (v := tSlc.enc (r7.1)) rfl rfl) ?_
      refine ro_val (d := (some 63)) rfl (.free rfl) rfl (q_len (s := r7.1) rfl Try.underlying25 rfl) ?_
      refine ro_val (d := (some 64)) rfl (.free rfl) rfl (q_lss (a := i_18) (b := (r7.1.len : Int)) rfl rfl rfl) ?_
      refine ro_nil ?_
      refine wp_if (b := (decide (i_18 < (r7.1.len : Int)))) rfl h (fun hb41 h => ?_) (fun hb41 h => ?_)
      · refine wp_skip ?_
        refine wp_seq ?_
        refine wp_block ?_
        refine wp_text [0, 1, 2, 3] rfl ?_
        refine ro_val (d := (some 67)) rfl (.free rfl) rfl (q_move (v := tSlc.enc (r7.1)) rfl rfl) ?_
        refine ro_val (d := (some 68)) rfl (.free rfl) rfl (q_move (v := .int .i64 (i_18)) rfl rfl) ?_
        obtain ⟨a21, ha21, h⟩ := h
        refine ro_val (d := (some 69)) rfl (.free rfl) rfl (q_indexAddr (s := r7.1) (i := i_18) rfl Try.underlying25 ok5 rfl rfl ha21) ?_
        obtain ⟨w22, hw22, hrw22, h⟩ := st_open h
        refine ro_skip (d := none) rfl (.free rfl) rfl (q_store (T := (tInt .u8)) (u := (255 : Int)) (a := a21) rfl ok5 rfl rfl hrw22 hw22) ?_
        refine ro_nil ?_
        refine wp_text [0, 1, 2] rfl ?_
        refine ro_val (d := (some 65)) rfl (.free rfl) rfl (q_move (v := .int .i64 (i_18)) rfl rfl) ?_
        refine ro_val (d := (some 66)) rfl (.free rfl) rfl (q_add (a := i_18) (b := (1 : Int)) rfl rfl rfl) ?_
        refine ro_val (d := (some 13)) rfl (.free rfl) rfl (q_assign (v := .int .i64 ((IntKind.i64.wrap (i_18 + (1 : Int))))) rfl rfl) ?_
        refine ro_nil ?_
        exact ⟨((IntKind.i64.wrap (i_18 + (1 : Int)))), _, arr (upd_step (upd_step (upd_step (upd_step (upd_step (upd_step rfl rfl) rfl) rfl) rfl) rfl) rfl), h⟩
      · refine wp_exit ?_
        refine wp_seq ?_
        refine wp_seq ?_
        refine wp_text [0] rfl ?_
        refine ro_val (d := (some 14)) rfl (.free rfl) rfl (q_assign (v := .int .i64 ((0 : Int))) rfl rfl) ?_
        refine ro_nil ?_
        refine wp_block ?_
        refine loop_at (σ := Int) (fr := fun g (s : Int) => upd (upd (upd (upd (upd (g) 0 (tSlc.enc (l_1))) 5 (tSlc.enc (r9.1))) 7 (tSlc.enc (r15.1))) 10 (tSlc.enc (r17.1))) 14 (.int .i64 (s))) (s0 := ((0 : Int))) (upd_step (upd_step (upd_step (upd_step (upd_step rfl rfl) rfl) rfl) rfl) rfl) h ?_
        rintro i_23 g w24 K25 h
        unfold F10_l2 at h
        refine wp_seq ?_
        refine wp_seq ?_
        refine wp_text [0, 1, 2, 3] rfl ?_
        refine ro_val (d := (some 70)) rfl (.free rfl) rfl (q_move (v := .int .i64 (i_23)) rfl rfl) ?_
        refine ro_val (d := (some 71)) rfl (.free rfl) rfl (q_move (v := tSlc.enc (r15.1)) rfl rfl) ?_
        refine ro_val (d := (some 72)) rfl (.free rfl) rfl (q_len (s := r15.1) rfl Try.underlying22 rfl) ?_
        refine ro_val (d := (some 73)) rfl (.free rfl) rfl (q_lss (a := i_23) (b := (r15.1.len : Int)) rfl rfl rfl) ?_
        refine ro_nil ?_
        refine wp_if (b := (decide (i_23 < (r15.1.len : Int)))) rfl h (fun hb40 h => ?_) (fun hb40 h => ?_)
        · refine wp_skip ?_
          refine wp_seq ?_
          refine wp_block ?_
          refine wp_text [0, 1, 2, 3, 4] rfl ?_
          refine ro_val (d := (some 76)) rfl (.free rfl) rfl (q_move (v := tSlc.enc (r15.1)) rfl rfl) ?_
          refine ro_val (d := (some 77)) rfl (.free rfl) rfl (q_move (v := .int .i64 (i_23)) rfl rfl) ?_
          refine ro_val (d := (some 78)) rfl (.free rfl) rfl (q_build36_  rfl ) ?_
          obtain ⟨a26, ha26, h⟩ := h
          refine ro_val (d := (some 79)) rfl (.free rfl) rfl (q_indexAddr (s := r15.1) (i := i_23) rfl Try.underlying22 ok36 rfl rfl ha26) ?_
          obtain ⟨w27, hw27, hrw27, h⟩ := st_open h
          refine ro_skip (d := none) rfl (.free rfl) rfl (q_store (T := T35) (u := (⟨(0 : Int), (0 : Int), (0 : Int), (0 : Nat), ([] : List UInt8)⟩ : S35)) (a := a26) rfl ok36 rfl rfl hrw27 hw27) ?_
          refine ro_nil ?_
          refine wp_text [0, 1, 2] rfl ?_
          refine ro_val (d := (some 74)) rfl (.free rfl) rfl (q_move (v := .int .i64 (i_23)) rfl rfl) ?_
          refine ro_val (d := (some 75)) rfl (.free rfl) rfl (q_add (a := i_23) (b := (1 : Int)) rfl rfl rfl) ?_
          refine ro_val (d := (some 14)) rfl (.free rfl) rfl (q_assign (v := .int .i64 ((IntKind.i64.wrap (i_23 + (1 : Int))))) rfl rfl) ?_
          refine ro_nil ?_
          exact ⟨((IntKind.i64.wrap (i_23 + (1 : Int)))), _, arr (upd_step (upd_step (upd_step (upd_step (upd_step rfl rfl) rfl) rfl) rfl) rfl), h⟩
        · refine wp_exit ?_
          refine wp_seq ?_
          refine wp_text [0, 1, 2, 3, 4, 5, 6, 7, 8] rfl ?_
          refine ro_val (d := (some 81)) rfl (.free rfl) rfl (q_move (v := tSlc.enc (r9.1)) rfl rfl) ?_
          refine ro_wp rfl (.free rfl) (wp_cl (d := (some 82)) rfl (q_call (k := 18) (l := [tSlc.enc (r9.1)]) rfl ent18 rfl) h ?_)
          intro r29 w28 h
          refine ro_val (d := (some 80)) rfl (.free rfl) rfl (q_move (v := (tTup3 tSlc (tInt .i64) (tInt .i64)).enc (r29)) rfl rfl) ?_
          refine ro_val (d := (some 83)) rfl (.free rfl) rfl (q_extract (vs := #[tSlc.enc (r29.1), .int .i64 (r29.2.1), .int .i64 (r29.2.2)]) (v := tSlc.enc (r29.1)) rfl rfl rfl) ?_
          refine ro_val (d := (some 84)) rfl (.free rfl) rfl (q_extract (vs := #[tSlc.enc (r29.1), .int .i64 (r29.2.1), .int .i64 (r29.2.2)]) (v := .int .i64 (r29.2.1)) rfl rfl rfl) ?_
          refine ro_val (d := (some 85)) rfl (.free rfl) rfl (q_extract (vs := #[tSlc.enc (r29.1), .int .i64 (r29.2.1), .int .i64 (r29.2.2)]) (v := .int .i64 (r29.2.2)) rfl rfl rfl) ?_
          refine ro_val (d := (some 15)) rfl (.free rfl) rfl (q_assign (v := tSlc.enc (r29.1)) rfl rfl) ?_
          refine ro_val (d := (some 16)) rfl (.free rfl) rfl (q_assign (v := .int .i64 (r29.2.1)) rfl rfl) ?_
          refine ro_val (d := (some 17)) rfl (.free rfl) rfl (q_assign (v := .int .i64 (r29.2.2)) rfl rfl) ?_
          refine ro_nil ?_
          refine wp_seq ?_
          refine wp_text [0, 1, 2, 3, 4, 5, 6, 7, 8, 9, 10, 11, 12] rfl ?_
          refine ro_val (d := (some 86)) rfl (.free rfl) rfl (q_move (v := .int .i64 (r29.2.2)) rfl rfl) ?_
          refine ro_val (d := (some 87)) rfl (.free rfl) rfl (q_eql (a := r29.2.2) (b := (0 : Int)) rfl rfl rfl) ?_
          refine ro_val (d := (some 88)) rfl (.free rfl) rfl (q_move (v := .bool ((r29.2.2 == (0 : Int)))) rfl rfl) ?_
          refine ro_join (σ := Bool) (J := fun (s : Bool) w => F10_j3 l_1 r17 s w R) (fr := fun g (s : Bool) => upd (upd (upd (g) 0 (tSlc.enc (l_1))) 10 (tSlc.enc (r17.1))) 92 (.bool (s))) [3, 4, 5, 6] [7, 8, 9, 10, 11, 12] ?_ ?_
          · rintro t_30 g w31 h
            unfold F10_j3 at h
            refine ro_val (d := (some 93)) rfl (.free rfl) rfl (q_move (v := .bool (t_30)) rfl rfl) ?_
            refine ro_join (σ := Bool) (J := fun (s : Bool) w => F10_j4 s w R) (fr := fun g (s : Bool) => upd (g) 97 (.bool (s))) [8, 9, 10, 11] [12] ?_ ?_
            · rintro t_32 g w33 h
              unfold F10_j4 at h
              refine ro_val (d := (some 2)) rfl (.free rfl) rfl (q_assign (v := .bool (t_32)) rfl rfl) ?_
              refine ro_nil ?_
              refine wp_ret ?_
              exact ret_ok rfl (.cons (.tmp (v := .bool (t_32)) rfl) .nil) ⟨t_32, rfl, h⟩
            · refine ro_if (b := t_30) h (fun hb34 h => ?_) (fun hb34 h => ?_)
              · refine ro_val (d := (some 94)) rfl (.by_ 7 true 93 t_30 rfl rfl rfl hb34) rfl (q_move (v := tSlc.enc (r17.1)) rfl rfl) ?_
                refine ro_val (d := (some 95)) rfl (.by_ 7 true 93 t_30 rfl rfl rfl hb34) rfl (q_move (v := tSlc.enc (l_1)) rfl rfl) ?_
                refine ro_wp rfl (.by_ 7 true 93 t_30 rfl rfl rfl hb34) (wp_cl (d := (some 96)) rfl (q_call (k := 15) (l := [tSlc.enc (r17.1), tSlc.enc (l_1)]) rfl ent15 rfl) h ?_)
                intro r36 w35 h
                refine ro_val (d := (some 97)) rfl (.free rfl) rfl (q_pickT (v := .bool (r36)) (b := t_30) rfl rfl hb34 rfl) ?_
                refine ro_nil ?_
                exact ⟨(r36), _, arr (upd_step rfl rfl), h⟩
              · refine ro_bar (d := (some 94)) rfl (.by_ 7 true 93 t_30 rfl rfl rfl hb34) rfl ?_
                refine ro_bar (d := (some 95)) rfl (.by_ 7 true 93 t_30 rfl rfl rfl hb34) rfl ?_
                refine ro_bar (d := (some 96)) rfl (.by_ 7 true 93 t_30 rfl rfl rfl hb34) rfl ?_
                refine ro_val (d := (some 97)) rfl (.free rfl) rfl (q_pickF (v := .bool (false)) (b := t_30) rfl rfl hb34 rfl) ?_
                refine ro_nil ?_
                exact ⟨(false), _, arr (upd_step rfl rfl), h⟩
          · refine ro_if (b := (r29.2.2 == (0 : Int))) h (fun hb37 h => ?_) (fun hb37 h => ?_)
            · refine ro_val (d := (some 89)) rfl (.by_ 2 true 88 (r29.2.2 == (0 : Int)) rfl rfl rfl hb37) rfl (q_move (v := tSlc.enc (r29.1)) rfl rfl) ?_
              refine ro_val (d := (some 90)) rfl (.by_ 2 true 88 (r29.2.2 == (0 : Int)) rfl rfl rfl hb37) rfl (q_move (v := tSlc.enc (l_1)) rfl rfl) ?_
              refine ro_wp rfl (.by_ 2 true 88 (r29.2.2 == (0 : Int)) rfl rfl rfl hb37) (wp_cl (d := (some 91)) rfl (q_call (k := 15) (l := [tSlc.enc (r29.1), tSlc.enc (l_1)]) rfl ent15 rfl) h ?_)
              intro r39 w38 h
              refine ro_val (d := (some 92)) rfl (.free rfl) rfl (q_pickT (v := .bool (r39)) (b := (r29.2.2 == (0 : Int))) rfl rfl hb37 rfl) ?_
              refine ro_nil ?_
              exact ⟨(r39), _, arr (upd_step (upd_step (upd_step rfl rfl) rfl) rfl), h⟩
            · refine ro_bar (d := (some 89)) rfl (.by_ 2 true 88 (r29.2.2 == (0 : Int)) rfl rfl rfl hb37) rfl ?_
              refine ro_bar (d := (some 90)) rfl (.by_ 2 true 88 (r29.2.2 == (0 : Int)) rfl rfl rfl hb37) rfl ?_
              refine ro_bar (d := (some 91)) rfl (.by_ 2 true 88 (r29.2.2 == (0 : Int)) rfl rfl rfl hb37) rfl ?_
              refine ro_val (d := (some 92)) rfl (.free rfl) rfl (q_pickF (v := .bool (false)) (b := (r29.2.2 == (0 : Int))) rfl rfl hb37 rfl) ?_
              refine ro_nil ?_
              exact ⟨(false), _, arr (upd_step (upd_step (upd_step rfl rfl) rfl) rfl), h⟩

-- moiety/moietylaw02.few
def F11_l1 (l_1 : Slc) (i_2 : Int) (w3 : World) (K4 : Int → World → Prop) (R : Bool → World → Prop) : Prop :=
  if (decide (i_2 < (l_1.len : Int))) = true then (
    ex (IxA l_1 5 i_2) fun a5 =>
    ex (RdAt tStr (a5.add 4) w3) fun x6 =>
    if (decide ((x6.length : Int) > (3000 : Int))) = true then (
      R false w3
    ) else (
      K4 ((IntKind.i64.wrap (i_2 + (1 : Int)))) w3
    )
  ) else (
    R true w3
  )
def F11 (l_1 : Slc) (w : World) (R : Bool → World → Prop) : Prop :=
  if (decide ((l_1.len : Int) > (2000 : Int))) = true then (
    R false w
  ) else (
    lp (fun (s : Int) w K => F11_l1 l_1 s w K R) ((0 : Int)) w
  )
theorem F11_ok {l_1 : Slc} {w : World} {R : Bool → World → Prop} (h : F11 l_1 w R) : cl Try.prog 11 [tSlc.enc (l_1)] tBool w R := by
  unfold F11 at h
  refine calls_start 20 Try.func11 rfl rfl (Nat.le_of_ble_eq_true rfl) ?_
  refine wp_seq ?_
  refine wp_text [0] rfl ?_
  refine ro_val (d := (some 2)) rfl (.free rfl) rfl (q_assign (v := .bool (false)) rfl rfl) ?_
  refine ro_nil ?_
  refine wp_seq ?_
  refine wp_seq ?_
  refine wp_text [0, 1, 2] rfl ?_
  refine ro_val (d := (some 4)) rfl (.free rfl) rfl (q_move (v := tSlc.enc (l_1)) rfl rfl) ?_
  refine ro_val (d := (some 5)) rfl (.free rfl) rfl (q_len (s := l_1) rfl Try.underlying22 rfl) ?_
  refine ro_val (d := (some 6)) rfl (.free rfl) rfl (q_gtr (a := (l_1.len : Int)) (b := (2000 : Int)) rfl rfl rfl) ?_
  refine ro_nil ?_
  refine wp_if (b := (decide ((l_1.len : Int) > (2000 : Int)))) rfl h (fun hb9 h => ?_) (fun hb9 h => ?_)
  · refine wp_seq ?_
    refine wp_text [0] rfl ?_
    refine ro_val (d := (some 2)) rfl (.free rfl) rfl (q_assign (v := .bool (false)) rfl rfl) ?_
    refine ro_nil ?_
    refine wp_ret ?_
    exact ret_ok rfl (.cons (.tmp (v := .bool (false)) rfl) .nil) ⟨false, rfl, h⟩
  · refine wp_skip ?_
    refine wp_seq ?_
    refine wp_seq ?_
    refine wp_text [0] rfl ?_
    refine ro_val (d := (some 3)) rfl (.free rfl) rfl (q_assign (v := .int .i64 ((0 : Int))) rfl rfl) ?_
    refine ro_nil ?_
    refine wp_block ?_
    refine loop_at (σ := Int) (fr := fun g (s : Int) => upd (upd (g) 0 (tSlc.enc (l_1))) 3 (.int .i64 (s))) (s0 := ((0 : Int))) (upd_step (upd_step rfl rfl) rfl) h ?_
    rintro i_2 g w3 K4 h
    unfold F11_l1 at h
    refine wp_seq ?_
    refine wp_seq ?_
    refine wp_text [0, 1, 2, 3] rfl ?_
    refine ro_val (d := (some 7)) rfl (.free rfl) rfl (q_move (v := .int .i64 (i_2)) rfl rfl) ?_
    refine ro_val (d := (some 8)) rfl (.free rfl) rfl (q_move (v := tSlc.enc (l_1)) rfl rfl) ?_
    refine ro_val (d := (some 9)) rfl (.free rfl) rfl (q_len (s := l_1) rfl Try.underlying22 rfl) ?_
    refine ro_val (d := (some 10)) rfl (.free rfl) rfl (q_lss (a := i_2) (b := (l_1.len : Int)) rfl rfl rfl) ?_
    refine ro_nil ?_
    refine wp_if (b := (decide (i_2 < (l_1.len : Int)))) rfl h (fun hb8 h => ?_) (fun hb8 h => ?_)
    · refine wp_skip ?_
      refine wp_seq ?_
      refine wp_block ?_
      refine wp_seq ?_
      refine wp_text [0, 1, 2, 3, 4, 5, 6] rfl ?_
      refine ro_val (d := (some 13)) rfl (.free rfl) rfl (q_move (v := tSlc.enc (l_1)) rfl rfl) ?_
      refine ro_val (d := (some 14)) rfl (.free rfl) rfl (q_move (v := .int .i64 (i_2)) rfl rfl) ?_
      obtain ⟨a5, ha5, h⟩ := h
      refine ro_val (d := (some 15)) rfl (.free rfl) rfl (q_indexAddr (s := l_1) (i := i_2) rfl Try.underlying22 ok36 rfl rfl ha5) ?_
      refine ro_val (d := (some 16)) rfl (.free rfl) rfl (q_fieldAddr (a := a5) (off := 4) rfl Try.underlying36 rfl rfl ok9 (by decide) rfl) ?_
      obtain ⟨x6, hx6, h⟩ := h
      refine ro_val (d := (some 17)) rfl (.free rfl) rfl (q_load (T := tStr) (u := x6) (a := (a5.add 4)) rfl ok9 rfl hx6) ?_
      refine ro_val (d := (some 18)) rfl (.free rfl) rfl (q_lenS (s := x6) rfl Try.underlying9 rfl) ?_
      refine ro_val (d := (some 19)) rfl (.free rfl) rfl (q_gtr (a := (x6.length : Int)) (b := (3000 : Int)) rfl rfl rfl) ?_
      refine ro_nil ?_
      refine wp_if (b := (decide ((x6.length : Int) > (3000 : Int)))) rfl h (fun hb7 h => ?_) (fun hb7 h => ?_)
      · refine wp_seq ?_
        refine wp_text [0] rfl ?_
        refine ro_val (d := (some 2)) rfl (.free rfl) rfl (q_assign (v := .bool (false)) rfl rfl) ?_
        refine ro_nil ?_
        refine wp_ret ?_
        exact ret_ok rfl (.cons (.tmp (v := .bool (false)) rfl) .nil) ⟨false, rfl, h⟩
      · refine wp_skip ?_
        refine wp_text [0, 1, 2] rfl ?_
        refine ro_val (d := (some 11)) rfl (.free rfl) rfl (q_move (v := .int .i64 (i_2)) rfl rfl) ?_
        refine ro_val (d := (some 12)) rfl (.free rfl) rfl (q_add (a := i_2) (b := (1 : Int)) rfl rfl rfl) ?_
        refine ro_val (d := (some 3)) rfl (.free rfl) rfl (q_assign (v := .int .i64 ((IntKind.i64.wrap (i_2 + (1 : Int))))) rfl rfl) ?_
        refine ro_nil ?_
        exact ⟨((IntKind.i64.wrap (i_2 + (1 : Int)))), _, arr (upd_step (upd_step rfl rfl) rfl), h⟩
    · refine wp_exit ?_
      refine wp_seq ?_
      refine wp_text [0] rfl ?_
      refine ro_val (d := (some 2)) rfl (.free rfl) rfl (q_assign (v := .bool (true)) rfl rfl) ?_
      refine ro_nil ?_
      refine wp_ret ?_
      exact ret_ok rfl (.cons (.tmp (v := .bool (true)) rfl) .nil) ⟨true, rfl, h⟩

end Go.Proofs.Ytjhenlajkhckfaa.Cf
