/- Characteristic formulae of Go functions, and that they are. Printed by gen.py (own tool). -/
import Derived.Test.YtjhenlajkhckfaaTy
namespace Go.Proofs.Ytjhenlajkhckfaa.Cf
open Go
set_option maxRecDepth 100000
set_option maxHeartbeats 1000000
set_option linter.unusedVariables false
set_option linter.unusedSimpArgs false

-- moiety/moietylaw02.WireCuts
def F7_j1 (t_17 : Bool) (w18 : World) (R : Bool → World → Prop) : Prop :=
  R t_17 w18
def F7_j2 (t_26 : Bool) (w27 : World) (R : Bool → World → Prop) : Prop :=
  R t_26 w27
def F7 (l_1 : Slc) (cut_2 : Int) (w : World) (R : Bool → World → Prop) : Prop :=
  cl Try.prog 11 [tSlc.enc (l_1)] tBool w fun r4 w3 =>
  if (!r4) = true then (
    cl Try.prog 12 [] tBool w3 fun r6 w5 =>
    R r6 w5
  ) else (
    cl Try.prog 13 [tSlc.enc (l_1)] (tTup2 tSlc (tInt .i64)) w3 fun r8 w7 =>
    cl Try.prog 12 [] tBool w7 fun r10 w9 =>
    if (((!r10) || (r8.2 != (0 : Int))) || ((r8.1.len : Int) == (0 : Int))) = true then (
      cl Try.prog 12 [] tBool w9 fun r12 w11 =>
      R r12 w11
    ) else (
      ex (Div0 (r8.1.len : Int) (Int.tmod (IntKind.i64.wrap cut_2) (r8.1.len : Int))) fun d13 =>
      ex (Sub r8.1 1 0 d13 ((r8.1).cap : Int)) fun s14 =>
      cl Try.prog 18 [tSlc.enc (s14)] (tTup3 tSlc (tInt .i64) (tInt .i64)) w9 fun r16 w15 =>
      if (r16.2.2 == (0 : Int)) = true then (
        if (decide ((r16.1.len : Int) < (l_1.len : Int))) = true then (
          ex (Sub l_1 5 0 (r16.1.len : Int) ((l_1).cap : Int)) fun s20 =>
          cl Try.prog 15 [tSlc.enc (r16.1), tSlc.enc (s20)] tBool w15 fun r22 w21 =>
          F7_j1 r22 w21 R
        ) else (
          F7_j1 false w15 R
        )
      ) else (
        ex (Sub r8.1 1 0 r16.2.1 ((r8.1).cap : Int)) fun s23 =>
        cl Try.prog 18 [tSlc.enc (s23)] (tTup3 tSlc (tInt .i64) (tInt .i64)) w15 fun r25 w24 =>
        if (((((r16.2.2 == (22 : Int)) && ((r16.1.len : Int) == (0 : Int))) && (decide (r16.2.1 < d13))) && (r25.2.2 == (0 : Int))) && (decide ((r25.1.len : Int) < (l_1.len : Int)))) = true then (
          ex (Sub l_1 5 0 (r25.1.len : Int) ((l_1).cap : Int)) fun s29 =>
          cl Try.prog 15 [tSlc.enc (r25.1), tSlc.enc (s29)] tBool w24 fun r31 w30 =>
          F7_j2 r31 w30 R
        ) else (
          F7_j2 false w24 R
        )
      )
    )
  )
theorem F7_ok {l_1 : Slc} {cut_2 : Int} {w : World} {R : Bool → World → Prop} (h : F7 l_1 cut_2 w R) : cl Try.prog 7 [tSlc.enc (l_1), .int .u16 (cut_2)] tBool w R := by
  unfold F7 at h
  refine calls_start 102 Try.func7 rfl rfl (Nat.le_of_ble_eq_true rfl) ?_
  refine wp_seq ?_
  refine wp_text [0] rfl ?_
  refine ro_val (d := (some 4)) rfl (.free rfl) rfl (q_assign (v := .bool (false)) rfl rfl) ?_
  refine ro_nil ?_
  refine wp_seq ?_
  refine wp_seq ?_
  refine wp_text [0, 1, 2] rfl ?_
  refine ro_val (d := (some 14)) rfl (.free rfl) rfl (q_move (v := tSlc.enc (l_1)) rfl rfl) ?_
  refine ro_wp rfl (.free rfl) (wp_cl (d := (some 15)) rfl (q_call (k := 11) (l := [tSlc.enc (l_1)]) rfl ent11 rfl) h ?_)
  intro r4 w3 h
  refine ro_val (d := (some 16)) rfl (.free rfl) rfl (q_not (b := r4) rfl rfl) ?_
  refine ro_nil ?_
  refine wp_if (b := (!r4)) rfl h (fun hb34 h => ?_) (fun hb34 h => ?_)
  · refine wp_seq ?_
    refine wp_text [0, 1] rfl ?_
    refine ro_wp rfl (.free rfl) (wp_cl (d := (some 17)) rfl (q_call (k := 12) (l := []) rfl ent12 rfl) h ?_)
    intro r6 w5 h
    refine ro_val (d := (some 4)) rfl (.free rfl) rfl (q_assign (v := .bool (r6)) rfl rfl) ?_
    refine ro_nil ?_
    refine wp_ret ?_
    exact ret_ok rfl (.cons (.tmp (v := .bool (r6)) rfl) .nil) ⟨r6, rfl, h⟩
  · refine wp_skip ?_
    refine wp_seq ?_
    refine wp_text [0, 1, 2, 3, 4, 5, 6] rfl ?_
    refine ro_val (d := (some 19)) rfl (.free rfl) rfl (q_move (v := tSlc.enc (l_1)) rfl rfl) ?_
    refine ro_wp rfl (.free rfl) (wp_cl (d := (some 20)) rfl (q_call (k := 13) (l := [tSlc.enc (l_1)]) rfl ent13 rfl) h ?_)
    intro r8 w7 h
    refine ro_val (d := (some 18)) rfl (.free rfl) rfl (q_move (v := (tTup2 tSlc (tInt .i64)).enc (r8)) rfl rfl) ?_
    refine ro_val (d := (some 21)) rfl (.free rfl) rfl (q_extract (vs := #[tSlc.enc (r8.1), .int .i64 (r8.2)]) (v := tSlc.enc (r8.1)) rfl rfl rfl) ?_
    refine ro_val (d := (some 22)) rfl (.free rfl) rfl (q_extract (vs := #[tSlc.enc (r8.1), .int .i64 (r8.2)]) (v := .int .i64 (r8.2)) rfl rfl rfl) ?_
    refine ro_val (d := (some 5)) rfl (.free rfl) rfl (q_assign (v := tSlc.enc (r8.1)) rfl rfl) ?_
    refine ro_val (d := (some 6)) rfl (.free rfl) rfl (q_assign (v := .int .i64 (r8.2)) rfl rfl) ?_
    refine ro_nil ?_
    refine wp_seq ?_
    refine wp_seq ?_
    refine wp_text [0, 1, 2, 3, 4, 5, 6, 7, 8, 9, 10] rfl ?_
    refine ro_wp rfl (.free rfl) (wp_cl (d := (some 23)) rfl (q_call (k := 12) (l := []) rfl ent12 rfl) h ?_)
    intro r10 w9 h
    refine ro_val (d := (some 24)) rfl (.free rfl) rfl (q_not (b := r10) rfl rfl) ?_
    refine ro_val (d := (some 25)) rfl (.free rfl) rfl (q_move (v := .bool ((!r10))) rfl rfl) ?_
    refine ro_gval (g := (!(!r10))) (d := (some 26)) rfl (.no 2 25 true (!r10) rfl rfl rfl rfl) rfl (fun hg => q_move (v := .int .i64 (r8.2)) rfl rfl) ?_
    refine ro_gval (g := (!(!r10))) (d := (some 27)) rfl (.no 2 25 true (!r10) rfl rfl rfl rfl) rfl (fun hg => q_neq (a := r8.2) (b := (0 : Int)) rfl (gvb_yes hg) rfl) ?_
    refine ro_val (d := (some 28)) rfl (.free rfl) rfl (q_pickGF (a := (!r10)) (c := (r8.2 != (0 : Int))) rfl rfl rfl rfl) ?_
    refine ro_val (d := (some 29)) rfl (.free rfl) rfl (q_move (v := .bool (((!r10) || (r8.2 != (0 : Int))))) rfl rfl) ?_
    refine ro_gval (g := (!((!r10) || (r8.2 != (0 : Int))))) (d := (some 30)) rfl (.no 6 29 true ((!r10) || (r8.2 != (0 : Int))) rfl rfl rfl rfl) rfl (fun hg => q_move (v := tSlc.enc (r8.1)) rfl rfl) ?_
    refine ro_gval (g := (!((!r10) || (r8.2 != (0 : Int))))) (d := (some 31)) rfl (.no 6 29 true ((!r10) || (r8.2 != (0 : Int))) rfl rfl rfl rfl) rfl (fun hg => q_len (s := r8.1) rfl Try.underlying25 (gvb_yes hg)) ?_
    refine ro_gval (g := (!((!r10) || (r8.2 != (0 : Int))))) (d := (some 32)) rfl (.no 6 29 true ((!r10) || (r8.2 != (0 : Int))) rfl rfl rfl rfl) rfl (fun hg => q_eql (a := (r8.1.len : Int)) (b := (0 : Int)) rfl (gvb_yes hg) rfl) ?_
    refine ro_val (d := (some 33)) rfl (.free rfl) rfl (q_pickGF (a := ((!r10) || (r8.2 != (0 : Int)))) (c := ((r8.1.len : Int) == (0 : Int))) rfl rfl rfl rfl) ?_
    refine ro_nil ?_
    refine wp_if (b := (((!r10) || (r8.2 != (0 : Int))) || ((r8.1.len : Int) == (0 : Int)))) rfl h (fun hb33 h => ?_) (fun hb33 h => ?_)
    · refine wp_seq ?_
      refine wp_text [0, 1] rfl ?_
      refine ro_wp rfl (.free rfl) (wp_cl (d := (some 34)) rfl (q_call (k := 12) (l := []) rfl ent12 rfl) h ?_)
      intro r12 w11 h
      refine ro_val (d := (some 4)) rfl (.free rfl) rfl (q_assign (v := .bool (r12)) rfl rfl) ?_
      refine ro_nil ?_
      refine wp_ret ?_
      exact ret_ok rfl (.cons (.tmp (v := .bool (r12)) rfl) .nil) ⟨r12, rfl, h⟩
    · refine wp_skip ?_
      refine wp_seq ?_
      refine wp_text [0, 1, 2, 3, 4, 5] rfl ?_
      refine ro_val (d := (some 35)) rfl (.free rfl) rfl (q_move (v := .int .u16 (cut_2)) rfl rfl) ?_
      refine ro_val (d := (some 36)) rfl (.free rfl) rfl (q_cvtI (a := cut_2) rfl Try.underlying42 Try.underlying3 rfl) ?_
      refine ro_val (d := (some 37)) rfl (.free rfl) rfl (q_move (v := tSlc.enc (r8.1)) rfl rfl) ?_
      refine ro_val (d := (some 38)) rfl (.free rfl) rfl (q_len (s := r8.1) rfl Try.underlying25 rfl) ?_
      obtain ⟨d13, hd13, h⟩ := h
      refine ro_val (d := (some 39)) rfl (.free rfl) rfl (q_rem0 (a := (IntKind.i64.wrap cut_2)) (b := (r8.1.len : Int)) (r := d13) rfl rfl rfl hd13) ?_
      refine ro_val (d := (some 7)) rfl (.free rfl) rfl (q_assign (v := .int .i64 (d13)) rfl rfl) ?_
      refine ro_nil ?_
      refine wp_seq ?_
      refine wp_text [0, 1, 2, 3, 4, 5, 6, 7, 8, 9, 10] rfl ?_
      refine ro_val (d := (some 41)) rfl (.free rfl) rfl (q_move (v := tSlc.enc (r8.1)) rfl rfl) ?_
      refine ro_val (d := (some 42)) rfl (.free rfl) rfl (q_move (v := .int .i64 (d13)) rfl rfl) ?_
      obtain ⟨s14, hs14, h⟩ := h
      refine ro_val (d := (some 43)) rfl (.free rfl) rfl (q_sliceH (s := r8.1) (h := d13) rfl Try.underlying25 ok5 rfl rfl hs14) ?_
      refine ro_wp rfl (.free rfl) (wp_cl (d := (some 44)) rfl (q_call (k := 18) (l := [tSlc.enc (s14)]) rfl ent18 rfl) h ?_)
      intro r16 w15 h
      refine ro_val (d := (some 40)) rfl (.free rfl) rfl (q_move (v := (tTup3 tSlc (tInt .i64) (tInt .i64)).enc (r16)) rfl rfl) ?_
      refine ro_val (d := (some 45)) rfl (.free rfl) rfl (q_extract (vs := #[tSlc.enc (r16.1), .int .i64 (r16.2.1), .int .i64 (r16.2.2)]) (v := tSlc.enc (r16.1)) rfl rfl rfl) ?_
      refine ro_val (d := (some 46)) rfl (.free rfl) rfl (q_extract (vs := #[tSlc.enc (r16.1), .int .i64 (r16.2.1), .int .i64 (r16.2.2)]) (v := .int .i64 (r16.2.1)) rfl rfl rfl) ?_
      refine ro_val (d := (some 47)) rfl (.free rfl) rfl (q_extract (vs := #[tSlc.enc (r16.1), .int .i64 (r16.2.1), .int .i64 (r16.2.2)]) (v := .int .i64 (r16.2.2)) rfl rfl rfl) ?_
      refine ro_val (d := (some 8)) rfl (.free rfl) rfl (q_assign (v := tSlc.enc (r16.1)) rfl rfl) ?_
      refine ro_val (d := (some 9)) rfl (.free rfl) rfl (q_assign (v := .int .i64 (r16.2.1)) rfl rfl) ?_
      refine ro_val (d := (some 10)) rfl (.free rfl) rfl (q_assign (v := .int .i64 (r16.2.2)) rfl rfl) ?_
      refine ro_nil ?_
      refine wp_seq ?_
      refine wp_seq ?_
      refine wp_text [0, 1] rfl ?_
      refine ro_val (d := (some 48)) rfl (.free rfl) rfl (q_move (v := .int .i64 (r16.2.2)) rfl rfl) ?_
      refine ro_val (d := (some 49)) rfl (.free rfl) rfl (q_eql (a := r16.2.2) (b := (0 : Int)) rfl rfl rfl) ?_
      refine ro_nil ?_
      refine wp_if (b := (r16.2.2 == (0 : Int))) rfl h (fun hb32 h => ?_) (fun hb32 h => ?_)
      · refine wp_seq ?_
        refine wp_text [0, 1, 2, 3, 4, 5, 6, 7, 8, 9, 10, 11, 12, 13] rfl ?_
        refine ro_val (d := (some 50)) rfl (.free rfl) rfl (q_move (v := tSlc.enc (r16.1)) rfl rfl) ?_
        refine ro_val (d := (some 51)) rfl (.free rfl) rfl (q_len (s := r16.1) rfl Try.underlying22 rfl) ?_
        refine ro_val (d := (some 52)) rfl (.free rfl) rfl (q_move (v := tSlc.enc (l_1)) rfl rfl) ?_
        refine ro_val (d := (some 53)) rfl (.free rfl) rfl (q_len (s := l_1) rfl Try.underlying22 rfl) ?_
        refine ro_val (d := (some 54)) rfl (.free rfl) rfl (q_lss (a := (r16.1.len : Int)) (b := (l_1.len : Int)) rfl rfl rfl) ?_
        refine ro_val (d := (some 55)) rfl (.free rfl) rfl (q_move (v := .bool ((decide ((r16.1.len : Int) < (l_1.len : Int))))) rfl rfl) ?_
        refine ro_join (σ := Bool) (J := fun (s : Bool) w => F7_j1 s w R) (fr := fun g (s : Bool) => upd (g) 62 (.bool (s))) [6, 7, 8, 9, 10, 11, 12] [13] ?_ ?_
        · rintro t_17 g w18 h
          unfold F7_j1 at h
          refine ro_val (d := (some 4)) rfl (.free rfl) rfl (q_assign (v := .bool (t_17)) rfl rfl) ?_
          refine ro_nil ?_
          refine wp_ret ?_
          exact ret_ok rfl (.cons (.tmp (v := .bool (t_17)) rfl) .nil) ⟨t_17, rfl, h⟩
        · refine ro_if (b := (decide ((r16.1.len : Int) < (l_1.len : Int)))) h (fun hb19 h => ?_) (fun hb19 h => ?_)
          · refine ro_val (d := (some 56)) rfl (.by_ 5 true 55 (decide ((r16.1.len : Int) < (l_1.len : Int))) rfl rfl rfl hb19) rfl (q_move (v := tSlc.enc (r16.1)) rfl rfl) ?_
            refine ro_val (d := (some 57)) rfl (.by_ 5 true 55 (decide ((r16.1.len : Int) < (l_1.len : Int))) rfl rfl rfl hb19) rfl (q_move (v := tSlc.enc (l_1)) rfl rfl) ?_
            refine ro_val (d := (some 58)) rfl (.by_ 5 true 55 (decide ((r16.1.len : Int) < (l_1.len : Int))) rfl rfl rfl hb19) rfl (q_move (v := tSlc.enc (r16.1)) rfl rfl) ?_
            refine ro_val (d := (some 59)) rfl (.by_ 5 true 55 (decide ((r16.1.len : Int) < (l_1.len : Int))) rfl rfl rfl hb19) rfl (q_len (s := r16.1) rfl Try.underlying22 rfl) ?_
            obtain ⟨s20, hs20, h⟩ := h
            refine ro_val (d := (some 60)) rfl (.by_ 5 true 55 (decide ((r16.1.len : Int) < (l_1.len : Int))) rfl rfl rfl hb19) rfl (q_sliceH (s := l_1) (h := (r16.1.len : Int)) rfl Try.underlying22 ok36 rfl rfl hs20) ?_
            refine ro_wp rfl (.by_ 5 true 55 (decide ((r16.1.len : Int) < (l_1.len : Int))) rfl rfl rfl hb19) (wp_cl (d := (some 61)) rfl (q_call (k := 15) (l := [tSlc.enc (r16.1), tSlc.enc (s20)]) rfl ent15 rfl) h ?_)
            intro r22 w21 h
            refine ro_val (d := (some 62)) rfl (.free rfl) rfl (q_pickT (v := .bool (r22)) (b := (decide ((r16.1.len : Int) < (l_1.len : Int)))) rfl rfl hb19 rfl) ?_
            refine ro_nil ?_
            exact ⟨(r22), _, arr (upd_step rfl rfl), h⟩
          · refine ro_bar (d := (some 56)) rfl (.by_ 5 true 55 (decide ((r16.1.len : Int) < (l_1.len : Int))) rfl rfl rfl hb19) rfl ?_
            refine ro_bar (d := (some 57)) rfl (.by_ 5 true 55 (decide ((r16.1.len : Int) < (l_1.len : Int))) rfl rfl rfl hb19) rfl ?_
            refine ro_bar (d := (some 58)) rfl (.by_ 5 true 55 (decide ((r16.1.len : Int) < (l_1.len : Int))) rfl rfl rfl hb19) rfl ?_
            refine ro_bar (d := (some 59)) rfl (.by_ 5 true 55 (decide ((r16.1.len : Int) < (l_1.len : Int))) rfl rfl rfl hb19) rfl ?_
            refine ro_bar (d := (some 60)) rfl (.by_ 5 true 55 (decide ((r16.1.len : Int) < (l_1.len : Int))) rfl rfl rfl hb19) rfl ?_
            refine ro_bar (d := (some 61)) rfl (.by_ 5 true 55 (decide ((r16.1.len : Int) < (l_1.len : Int))) rfl rfl rfl hb19) rfl ?_
            refine ro_val (d := (some 62)) rfl (.free rfl) rfl (q_pickF (v := .bool (false)) (b := (decide ((r16.1.len : Int) < (l_1.len : Int)))) rfl rfl hb19 rfl) ?_
            refine ro_nil ?_
            exact ⟨(false), _, arr (upd_step rfl rfl), h⟩
      · refine wp_skip ?_
        refine wp_seq ?_
        refine wp_text [0, 1, 2, 3, 4, 5, 6, 7, 8, 9, 10] rfl ?_
        refine ro_val (d := (some 64)) rfl (.free rfl) rfl (q_move (v := tSlc.enc (r8.1)) rfl rfl) ?_
        refine ro_val (d := (some 65)) rfl (.free rfl) rfl (q_move (v := .int .i64 (r16.2.1)) rfl rfl) ?_
        obtain ⟨s23, hs23, h⟩ := h
        refine ro_val (d := (some 66)) rfl (.free rfl) rfl (q_sliceH (s := r8.1) (h := r16.2.1) rfl Try.underlying25 ok5 rfl rfl hs23) ?_
        refine ro_wp rfl (.free rfl) (wp_cl (d := (some 67)) rfl (q_call (k := 18) (l := [tSlc.enc (s23)]) rfl ent18 rfl) h ?_)
        intro r25 w24 h
        refine ro_val (d := (some 63)) rfl (.free rfl) rfl (q_move (v := (tTup3 tSlc (tInt .i64) (tInt .i64)).enc (r25)) rfl rfl) ?_
        refine ro_val (d := (some 68)) rfl (.free rfl) rfl (q_extract (vs := #[tSlc.enc (r25.1), .int .i64 (r25.2.1), .int .i64 (r25.2.2)]) (v := tSlc.enc (r25.1)) rfl rfl rfl) ?_
        refine ro_val (d := (some 69)) rfl (.free rfl) rfl (q_extract (vs := #[tSlc.enc (r25.1), .int .i64 (r25.2.1), .int .i64 (r25.2.2)]) (v := .int .i64 (r25.2.1)) rfl rfl rfl) ?_
        refine ro_val (d := (some 70)) rfl (.free rfl) rfl (q_extract (vs := #[tSlc.enc (r25.1), .int .i64 (r25.2.1), .int .i64 (r25.2.2)]) (v := .int .i64 (r25.2.2)) rfl rfl rfl) ?_
        refine ro_val (d := (some 11)) rfl (.free rfl) rfl (q_assign (v := tSlc.enc (r25.1)) rfl rfl) ?_
        refine ro_val (d := (some 12)) rfl (.free rfl) rfl (q_assign (v := .int .i64 (r25.2.1)) rfl rfl) ?_
        refine ro_val (d := (some 13)) rfl (.free rfl) rfl (q_assign (v := .int .i64 (r25.2.2)) rfl rfl) ?_
        refine ro_nil ?_
        refine wp_seq ?_
        refine wp_text [0, 1, 2, 3, 4, 5, 6, 7, 8, 9, 10, 11, 12, 13, 14, 15, 16, 17, 18, 19, 20, 21, 22, 23, 24, 25, 26, 27, 28, 29, 30, 31] rfl ?_
        refine ro_val (d := (some 71)) rfl (.free rfl) rfl (q_move (v := .int .i64 (r16.2.2)) rfl rfl) ?_
        refine ro_val (d := (some 72)) rfl (.free rfl) rfl (q_eql (a := r16.2.2) (b := (22 : Int)) rfl rfl rfl) ?_
        refine ro_val (d := (some 73)) rfl (.free rfl) rfl (q_move (v := .bool ((r16.2.2 == (22 : Int)))) rfl rfl) ?_
        refine ro_gval (g := (r16.2.2 == (22 : Int))) (d := (some 74)) rfl (.yes 2 73 true (r16.2.2 == (22 : Int)) rfl rfl rfl rfl) rfl (fun hg => q_move (v := tSlc.enc (r16.1)) rfl rfl) ?_
        refine ro_gval (g := (r16.2.2 == (22 : Int))) (d := (some 75)) rfl (.yes 2 73 true (r16.2.2 == (22 : Int)) rfl rfl rfl rfl) rfl (fun hg => q_len (s := r16.1) rfl Try.underlying22 (gvb_yes hg)) ?_
        refine ro_gval (g := (r16.2.2 == (22 : Int))) (d := (some 76)) rfl (.yes 2 73 true (r16.2.2 == (22 : Int)) rfl rfl rfl rfl) rfl (fun hg => q_eql (a := (r16.1.len : Int)) (b := (0 : Int)) rfl (gvb_yes hg) rfl) ?_
        refine ro_val (d := (some 77)) rfl (.free rfl) rfl (q_pickGT (a := (r16.2.2 == (22 : Int))) (b := ((r16.1.len : Int) == (0 : Int))) rfl rfl rfl rfl) ?_
        refine ro_val (d := (some 78)) rfl (.free rfl) rfl (q_move (v := .bool (((r16.2.2 == (22 : Int)) && ((r16.1.len : Int) == (0 : Int))))) rfl rfl) ?_
        refine ro_gval (g := ((r16.2.2 == (22 : Int)) && ((r16.1.len : Int) == (0 : Int)))) (d := (some 79)) rfl (.yes 7 78 true ((r16.2.2 == (22 : Int)) && ((r16.1.len : Int) == (0 : Int))) rfl rfl rfl rfl) rfl (fun hg => q_move (v := .int .i64 (r16.2.1)) rfl rfl) ?_
        refine ro_gval (g := ((r16.2.2 == (22 : Int)) && ((r16.1.len : Int) == (0 : Int)))) (d := (some 80)) rfl (.yes 7 78 true ((r16.2.2 == (22 : Int)) && ((r16.1.len : Int) == (0 : Int))) rfl rfl rfl rfl) rfl (fun hg => q_move (v := .int .i64 (d13)) rfl rfl) ?_
        refine ro_gval (g := ((r16.2.2 == (22 : Int)) && ((r16.1.len : Int) == (0 : Int)))) (d := (some 81)) rfl (.yes 7 78 true ((r16.2.2 == (22 : Int)) && ((r16.1.len : Int) == (0 : Int))) rfl rfl rfl rfl) rfl (fun hg => q_lss (a := r16.2.1) (b := d13) rfl (gvb_yes hg) (gvb_yes hg)) ?_
        refine ro_val (d := (some 82)) rfl (.free rfl) rfl (q_pickGT (a := ((r16.2.2 == (22 : Int)) && ((r16.1.len : Int) == (0 : Int)))) (b := (decide (r16.2.1 < d13))) rfl rfl rfl rfl) ?_
        refine ro_val (d := (some 83)) rfl (.free rfl) rfl (q_move (v := .bool ((((r16.2.2 == (22 : Int)) && ((r16.1.len : Int) == (0 : Int))) && (decide (r16.2.1 < d13))))) rfl rfl) ?_
        refine ro_gval (g := (((r16.2.2 == (22 : Int)) && ((r16.1.len : Int) == (0 : Int))) && (decide (r16.2.1 < d13)))) (d := (some 84)) rfl (.yes 12 83 true (((r16.2.2 == (22 : Int)) && ((r16.1.len : Int) == (0 : Int))) && (decide (r16.2.1 < d13))) rfl rfl rfl rfl) rfl (fun hg => q_move (v := .int .i64 (r25.2.2)) rfl rfl) ?_
        refine ro_gval (g := (((r16.2.2 == (22 : Int)) && ((r16.1.len : Int) == (0 : Int))) && (decide (r16.2.1 < d13)))) (d := (some 85)) rfl (.yes 12 83 true (((r16.2.2 == (22 : Int)) && ((r16.1.len : Int) == (0 : Int))) && (decide (r16.2.1 < d13))) rfl rfl rfl rfl) rfl (fun hg => q_eql (a := r25.2.2) (b := (0 : Int)) rfl (gvb_yes hg) rfl) ?_
        refine ro_val (d := (some 86)) rfl (.free rfl) rfl (q_pickGT (a := (((r16.2.2 == (22 : Int)) && ((r16.1.len : Int) == (0 : Int))) && (decide (r16.2.1 < d13)))) (b := (r25.2.2 == (0 : Int))) rfl rfl rfl rfl) ?_
        refine ro_val (d := (some 87)) rfl (.free rfl) rfl (q_move (v := .bool (((((r16.2.2 == (22 : Int)) && ((r16.1.len : Int) == (0 : Int))) && (decide (r16.2.1 < d13))) && (r25.2.2 == (0 : Int))))) rfl rfl) ?_
        refine ro_gval (g := ((((r16.2.2 == (22 : Int)) && ((r16.1.len : Int) == (0 : Int))) && (decide (r16.2.1 < d13))) && (r25.2.2 == (0 : Int)))) (d := (some 88)) rfl (.yes 16 87 true ((((r16.2.2 == (22 : Int)) && ((r16.1.len : Int) == (0 : Int))) && (decide (r16.2.1 < d13))) && (r25.2.2 == (0 : Int))) rfl rfl rfl rfl) rfl (fun hg => q_move (v := tSlc.enc (r25.1)) rfl rfl) ?_
        refine ro_gval (g := ((((r16.2.2 == (22 : Int)) && ((r16.1.len : Int) == (0 : Int))) && (decide (r16.2.1 < d13))) && (r25.2.2 == (0 : Int)))) (d := (some 89)) rfl (.yes 16 87 true ((((r16.2.2 == (22 : Int)) && ((r16.1.len : Int) == (0 : Int))) && (decide (r16.2.1 < d13))) && (r25.2.2 == (0 : Int))) rfl rfl rfl rfl) rfl (fun hg => q_len (s := r25.1) rfl Try.underlying22 (gvb_yes hg)) ?_
        refine ro_gval (g := ((((r16.2.2 == (22 : Int)) && ((r16.1.len : Int) == (0 : Int))) && (decide (r16.2.1 < d13))) && (r25.2.2 == (0 : Int)))) (d := (some 90)) rfl (.yes 16 87 true ((((r16.2.2 == (22 : Int)) && ((r16.1.len : Int) == (0 : Int))) && (decide (r16.2.1 < d13))) && (r25.2.2 == (0 : Int))) rfl rfl rfl rfl) rfl (fun hg => q_move (v := tSlc.enc (l_1)) rfl rfl) ?_
        refine ro_gval (g := ((((r16.2.2 == (22 : Int)) && ((r16.1.len : Int) == (0 : Int))) && (decide (r16.2.1 < d13))) && (r25.2.2 == (0 : Int)))) (d := (some 91)) rfl (.yes 16 87 true ((((r16.2.2 == (22 : Int)) && ((r16.1.len : Int) == (0 : Int))) && (decide (r16.2.1 < d13))) && (r25.2.2 == (0 : Int))) rfl rfl rfl rfl) rfl (fun hg => q_len (s := l_1) rfl Try.underlying22 (gvb_yes hg)) ?_
        refine ro_gval (g := ((((r16.2.2 == (22 : Int)) && ((r16.1.len : Int) == (0 : Int))) && (decide (r16.2.1 < d13))) && (r25.2.2 == (0 : Int)))) (d := (some 92)) rfl (.yes 16 87 true ((((r16.2.2 == (22 : Int)) && ((r16.1.len : Int) == (0 : Int))) && (decide (r16.2.1 < d13))) && (r25.2.2 == (0 : Int))) rfl rfl rfl rfl) rfl (fun hg => q_lss (a := (r25.1.len : Int)) (b := (l_1.len : Int)) rfl (gvb_yes hg) (gvb_yes hg)) ?_
        refine ro_val (d := (some 93)) rfl (.free rfl) rfl (q_pickGT (a := ((((r16.2.2 == (22 : Int)) && ((r16.1.len : Int) == (0 : Int))) && (decide (r16.2.1 < d13))) && (r25.2.2 == (0 : Int)))) (b := (decide ((r25.1.len : Int) < (l_1.len : Int)))) rfl rfl rfl rfl) ?_
        refine ro_val (d := (some 94)) rfl (.free rfl) rfl (q_move (v := .bool ((((((r16.2.2 == (22 : Int)) && ((r16.1.len : Int) == (0 : Int))) && (decide (r16.2.1 < d13))) && (r25.2.2 == (0 : Int))) && (decide ((r25.1.len : Int) < (l_1.len : Int)))))) rfl rfl) ?_
        refine ro_join (σ := Bool) (J := fun (s : Bool) w => F7_j2 s w R) (fr := fun g (s : Bool) => upd (g) 101 (.bool (s))) [24, 25, 26, 27, 28, 29, 30] [31] ?_ ?_
        · rintro t_26 g w27 h
          unfold F7_j2 at h
          refine ro_val (d := (some 4)) rfl (.free rfl) rfl (q_assign (v := .bool (t_26)) rfl rfl) ?_
          refine ro_nil ?_
          refine wp_ret ?_
          exact ret_ok rfl (.cons (.tmp (v := .bool (t_26)) rfl) .nil) ⟨t_26, rfl, h⟩
        · refine ro_if (b := (((((r16.2.2 == (22 : Int)) && ((r16.1.len : Int) == (0 : Int))) && (decide (r16.2.1 < d13))) && (r25.2.2 == (0 : Int))) && (decide ((r25.1.len : Int) < (l_1.len : Int))))) h (fun hb28 h => ?_) (fun hb28 h => ?_)
          · refine ro_val (d := (some 95)) rfl (.by_ 23 true 94 (((((r16.2.2 == (22 : Int)) && ((r16.1.len : Int) == (0 : Int))) && (decide (r16.2.1 < d13))) && (r25.2.2 == (0 : Int))) && (decide ((r25.1.len : Int) < (l_1.len : Int)))) rfl rfl rfl hb28) rfl (q_move (v := tSlc.enc (r25.1)) rfl rfl) ?_
            refine ro_val (d := (some 96)) rfl (.by_ 23 true 94 (((((r16.2.2 == (22 : Int)) && ((r16.1.len : Int) == (0 : Int))) && (decide (r16.2.1 < d13))) && (r25.2.2 == (0 : Int))) && (decide ((r25.1.len : Int) < (l_1.len : Int)))) rfl rfl rfl hb28) rfl (q_move (v := tSlc.enc (l_1)) rfl rfl) ?_
            refine ro_val (d := (some 97)) rfl (.by_ 23 true 94 (((((r16.2.2 == (22 : Int)) && ((r16.1.len : Int) == (0 : Int))) && (decide (r16.2.1 < d13))) && (r25.2.2 == (0 : Int))) && (decide ((r25.1.len : Int) < (l_1.len : Int)))) rfl rfl rfl hb28) rfl (q_move (v := tSlc.enc (r25.1)) rfl rfl) ?_
            refine ro_val (d := (some 98)) rfl (.by_ 23 true 94 (((((r16.2.2 == (22 : Int)) && ((r16.1.len : Int) == (0 : Int))) && (decide (r16.2.1 < d13))) && (r25.2.2 == (0 : Int))) && (decide ((r25.1.len : Int) < (l_1.len : Int)))) rfl rfl rfl hb28) rfl (q_len (s := r25.1) rfl Try.underlying22 rfl) ?_
            obtain ⟨s29, hs29, h⟩ := h
            refine ro_val (d := (some 99)) rfl (.by_ 23 true 94 (((((r16.2.2 == (22 : Int)) && ((r16.1.len : Int) == (0 : Int))) && (decide (r16.2.1 < d13))) && (r25.2.2 == (0 : Int))) && (decide ((r25.1.len : Int) < (l_1.len : Int)))) rfl rfl rfl hb28) rfl (q_sliceH (s := l_1) (h := (r25.1.len : Int)) rfl Try.underlying22 ok36 rfl rfl hs29) ?_
            refine ro_wp rfl (.by_ 23 true 94 (((((r16.2.2 == (22 : Int)) && ((r16.1.len : Int) == (0 : Int))) && (decide (r16.2.1 < d13))) && (r25.2.2 == (0 : Int))) && (decide ((r25.1.len : Int) < (l_1.len : Int)))) rfl rfl rfl hb28) (wp_cl (d := (some 100)) rfl (q_call (k := 15) (l := [tSlc.enc (r25.1), tSlc.enc (s29)]) rfl ent15 rfl) h ?_)
            intro r31 w30 h
            refine ro_val (d := (some 101)) rfl (.free rfl) rfl (q_pickT (v := .bool (r31)) (b := (((((r16.2.2 == (22 : Int)) && ((r16.1.len : Int) == (0 : Int))) && (decide (r16.2.1 < d13))) && (r25.2.2 == (0 : Int))) && (decide ((r25.1.len : Int) < (l_1.len : Int))))) rfl rfl hb28 rfl) ?_
            refine ro_nil ?_
            exact ⟨(r31), _, arr (upd_step rfl rfl), h⟩
          · refine ro_bar (d := (some 95)) rfl (.by_ 23 true 94 (((((r16.2.2 == (22 : Int)) && ((r16.1.len : Int) == (0 : Int))) && (decide (r16.2.1 < d13))) && (r25.2.2 == (0 : Int))) && (decide ((r25.1.len : Int) < (l_1.len : Int)))) rfl rfl rfl hb28) rfl ?_
            refine ro_bar (d := (some 96)) rfl (.by_ 23 true 94 (((((r16.2.2 == (22 : Int)) && ((r16.1.len : Int) == (0 : Int))) && (decide (r16.2.1 < d13))) && (r25.2.2 == (0 : Int))) && (decide ((r25.1.len : Int) < (l_1.len : Int)))) rfl rfl rfl hb28) rfl ?_
            refine ro_bar (d := (some 97)) rfl (.by_ 23 true 94 (((((r16.2.2 == (22 : Int)) && ((r16.1.len : Int) == (0 : Int))) && (decide (r16.2.1 < d13))) && (r25.2.2 == (0 : Int))) && (decide ((r25.1.len : Int) < (l_1.len : Int)))) rfl rfl rfl hb28) rfl ?_
            refine ro_bar (d := (some 98)) rfl (.by_ 23 true 94 (((((r16.2.2 == (22 : Int)) && ((r16.1.len : Int) == (0 : Int))) && (decide (r16.2.1 < d13))) && (r25.2.2 == (0 : Int))) && (decide ((r25.1.len : Int) < (l_1.len : Int)))) rfl rfl rfl hb28) rfl ?_
            refine ro_bar (d := (some 99)) rfl (.by_ 23 true 94 (((((r16.2.2 == (22 : Int)) && ((r16.1.len : Int) == (0 : Int))) && (decide (r16.2.1 < d13))) && (r25.2.2 == (0 : Int))) && (decide ((r25.1.len : Int) < (l_1.len : Int)))) rfl rfl rfl hb28) rfl ?_
            refine ro_bar (d := (some 100)) rfl (.by_ 23 true 94 (((((r16.2.2 == (22 : Int)) && ((r16.1.len : Int) == (0 : Int))) && (decide (r16.2.1 < d13))) && (r25.2.2 == (0 : Int))) && (decide ((r25.1.len : Int) < (l_1.len : Int)))) rfl rfl rfl hb28) rfl ?_
            refine ro_val (d := (some 101)) rfl (.free rfl) rfl (q_pickF (v := .bool (false)) (b := (((((r16.2.2 == (22 : Int)) && ((r16.1.len : Int) == (0 : Int))) && (decide (r16.2.1 < d13))) && (r25.2.2 == (0 : Int))) && (decide ((r25.1.len : Int) < (l_1.len : Int))))) rfl rfl hb28 rfl) ?_
            refine ro_nil ?_
            exact ⟨(false), _, arr (upd_step rfl rfl), h⟩

-- moiety/moietylaw02.WireJoins
def F8_j2 (t_25 : Bool) (w26 : World) (R : Bool → World → Prop) : Prop :=
  R t_25 w26
def F8_j1 (l_1 : Slc) (m_2 : Slc) (t_5 : Bool) (w6 : World) (R : Bool → World → Prop) : Prop :=
  if t_5 = true then (
    cl Try.prog 12 [] tBool w6 fun r8 w7 =>
    R r8 w7
  ) else (
    cl Try.prog 13 [tSlc.enc (l_1)] (tTup2 tSlc (tInt .i64)) w6 fun r10 w9 =>
    cl Try.prog 13 [tSlc.enc (m_2)] (tTup2 tSlc (tInt .i64)) w9 fun r12 w11 =>
    cl Try.prog 12 [] tBool w11 fun r14 w13 =>
    if (((!r14) || (r10.2 != (0 : Int))) || (r12.2 != (0 : Int))) = true then (
      cl Try.prog 12 [] tBool w13 fun r16 w15 =>
      R r16 w15
    ) else (
      nwS 5 (tInt .u8) ([] : List Int) w13 fun a17 w18 =>
      apd 5 (tInt .u8) 1 1 (⟨some a17, 0, 0⟩ : Slc) r10.1 w18 fun r20 w19 =>
      apd 5 (tInt .u8) 1 1 r20 r12.1 w19 fun r22 w21 =>
      cl Try.prog 18 [tSlc.enc (r22)] (tTup3 tSlc (tInt .i64) (tInt .i64)) w21 fun r24 w23 =>
      if (decide ((IntKind.i64.wrap ((l_1.len : Int) + (m_2.len : Int))) > (1000 : Int))) = true then (
        R ((r24.2.2 == (20 : Int)) && ((r24.1.len : Int) == (0 : Int))) w23
      ) else (
        if (r24.2.2 == (0 : Int)) = true then (
          nwS 36 T35 ([] : List S35) w23 fun a28 w29 =>
          apd 36 T35 5 48 (⟨some a28, 0, 0⟩ : Slc) l_1 w29 fun r31 w30 =>
          apd 36 T35 5 48 r31 m_2 w30 fun r33 w32 =>
          cl Try.prog 15 [tSlc.enc (r24.1), tSlc.enc (r33)] tBool w32 fun r35 w34 =>
          F8_j2 r35 w34 R
        ) else (
          F8_j2 false w23 R
        )
      )
    )
  )
def F8 (l_1 : Slc) (m_2 : Slc) (w : World) (R : Bool → World → Prop) : Prop :=
  cl Try.prog 11 [tSlc.enc (l_1)] tBool w fun r4 w3 =>
  if (!r4) = true then (
    F8_j1 l_1 m_2 true w3 R
  ) else (
    cl Try.prog 11 [tSlc.enc (m_2)] tBool w3 fun r41 w40 =>
    F8_j1 l_1 m_2 (!r41) w40 R
  )
theorem F8_ok {l_1 : Slc} {m_2 : Slc} {w : World} {R : Bool → World → Prop} (h : F8 l_1 m_2 w R) : cl Try.prog 8 [tSlc.enc (l_1), tSlc.enc (m_2)] tBool w R := by
  unfold F8 at h
  refine calls_start 76 Try.func8 rfl rfl (Nat.le_of_ble_eq_true rfl) ?_
  refine wp_seq ?_
  refine wp_text [0] rfl ?_
  refine ro_val (d := (some 4)) rfl (.free rfl) rfl (q_assign (v := .bool (false)) rfl rfl) ?_
  refine ro_nil ?_
  refine wp_seq ?_
  refine wp_seq ?_
  refine wp_text [0, 1, 2, 3, 4, 5, 6, 7] rfl ?_
  refine ro_val (d := (some 12)) rfl (.free rfl) rfl (q_move (v := tSlc.enc (l_1)) rfl rfl) ?_
  refine ro_wp rfl (.free rfl) (wp_cl (d := (some 13)) rfl (q_call (k := 11) (l := [tSlc.enc (l_1)]) rfl ent11 rfl) h ?_)
  intro r4 w3 h
  refine ro_val (d := (some 14)) rfl (.free rfl) rfl (q_not (b := r4) rfl rfl) ?_
  refine ro_val (d := (some 15)) rfl (.free rfl) rfl (q_move (v := .bool ((!r4))) rfl rfl) ?_
  refine ro_join (σ := Bool) (J := fun (s : Bool) w => F8_j1 l_1 m_2 s w R) (fr := fun g (s : Bool) => upd (upd (upd (g) 0 (tSlc.enc (l_1))) 1 (tSlc.enc (m_2))) 19 (.bool (s))) [4, 5, 6, 7] [] ?_ ?_
  · rintro t_5 g w6 h
    unfold F8_j1 at h
    refine ro_nil ?_
    refine wp_if (b := t_5) rfl h (fun hb38 h => ?_) (fun hb38 h => ?_)
    · refine wp_seq ?_
      refine wp_text [0, 1] rfl ?_
      refine ro_wp rfl (.free rfl) (wp_cl (d := (some 20)) rfl (q_call (k := 12) (l := []) rfl ent12 rfl) h ?_)
      intro r8 w7 h
      refine ro_val (d := (some 4)) rfl (.free rfl) rfl (q_assign (v := .bool (r8)) rfl rfl) ?_
      refine ro_nil ?_
      refine wp_ret ?_
      exact ret_ok rfl (.cons (.tmp (v := .bool (r8)) rfl) .nil) ⟨r8, rfl, h⟩
    · refine wp_skip ?_
      refine wp_seq ?_
      refine wp_text [0, 1, 2, 3, 4, 5, 6] rfl ?_
      refine ro_val (d := (some 22)) rfl (.free rfl) rfl (q_move (v := tSlc.enc (l_1)) rfl rfl) ?_
      refine ro_wp rfl (.free rfl) (wp_cl (d := (some 23)) rfl (q_call (k := 13) (l := [tSlc.enc (l_1)]) rfl ent13 rfl) h ?_)
      intro r10 w9 h
      refine ro_val (d := (some 21)) rfl (.free rfl) rfl (q_move (v := (tTup2 tSlc (tInt .i64)).enc (r10)) rfl rfl) ?_
      refine ro_val (d := (some 24)) rfl (.free rfl) rfl (q_extract (vs := #[tSlc.enc (r10.1), .int .i64 (r10.2)]) (v := tSlc.enc (r10.1)) rfl rfl rfl) ?_
      refine ro_val (d := (some 25)) rfl (.free rfl) rfl (q_extract (vs := #[tSlc.enc (r10.1), .int .i64 (r10.2)]) (v := .int .i64 (r10.2)) rfl rfl rfl) ?_
      refine ro_val (d := (some 5)) rfl (.free rfl) rfl (q_assign (v := tSlc.enc (r10.1)) rfl rfl) ?_
      refine ro_val (d := (some 6)) rfl (.free rfl) rfl (q_assign (v := .int .i64 (r10.2)) rfl rfl) ?_
      refine ro_nil ?_
      refine wp_seq ?_
      refine wp_text [0, 1, 2, 3, 4, 5, 6] rfl ?_
      refine ro_val (d := (some 27)) rfl (.free rfl) rfl (q_move (v := tSlc.enc (m_2)) rfl rfl) ?_
      refine ro_wp rfl (.free rfl) (wp_cl (d := (some 28)) rfl (q_call (k := 13) (l := [tSlc.enc (m_2)]) rfl ent13 rfl) h ?_)
      intro r12 w11 h
      refine ro_val (d := (some 26)) rfl (.free rfl) rfl (q_move (v := (tTup2 tSlc (tInt .i64)).enc (r12)) rfl rfl) ?_
      refine ro_val (d := (some 29)) rfl (.free rfl) rfl (q_extract (vs := #[tSlc.enc (r12.1), .int .i64 (r12.2)]) (v := tSlc.enc (r12.1)) rfl rfl rfl) ?_
      refine ro_val (d := (some 30)) rfl (.free rfl) rfl (q_extract (vs := #[tSlc.enc (r12.1), .int .i64 (r12.2)]) (v := .int .i64 (r12.2)) rfl rfl rfl) ?_
      refine ro_val (d := (some 7)) rfl (.free rfl) rfl (q_assign (v := tSlc.enc (r12.1)) rfl rfl) ?_
      refine ro_val (d := (some 8)) rfl (.free rfl) rfl (q_assign (v := .int .i64 (r12.2)) rfl rfl) ?_
      refine ro_nil ?_
      refine wp_seq ?_
      refine wp_seq ?_
      refine wp_text [0, 1, 2, 3, 4, 5, 6, 7, 8, 9] rfl ?_
      refine ro_wp rfl (.free rfl) (wp_cl (d := (some 31)) rfl (q_call (k := 12) (l := []) rfl ent12 rfl) h ?_)
      intro r14 w13 h
      refine ro_val (d := (some 32)) rfl (.free rfl) rfl (q_not (b := r14) rfl rfl) ?_
      refine ro_val (d := (some 33)) rfl (.free rfl) rfl (q_move (v := .bool ((!r14))) rfl rfl) ?_
      refine ro_gval (g := (!(!r14))) (d := (some 34)) rfl (.no 2 33 true (!r14) rfl rfl rfl rfl) rfl (fun hg => q_move (v := .int .i64 (r10.2)) rfl rfl) ?_
      refine ro_gval (g := (!(!r14))) (d := (some 35)) rfl (.no 2 33 true (!r14) rfl rfl rfl rfl) rfl (fun hg => q_neq (a := r10.2) (b := (0 : Int)) rfl (gvb_yes hg) rfl) ?_
      refine ro_val (d := (some 36)) rfl (.free rfl) rfl (q_pickGF (a := (!r14)) (c := (r10.2 != (0 : Int))) rfl rfl rfl rfl) ?_
      refine ro_val (d := (some 37)) rfl (.free rfl) rfl (q_move (v := .bool (((!r14) || (r10.2 != (0 : Int))))) rfl rfl) ?_
      refine ro_gval (g := (!((!r14) || (r10.2 != (0 : Int))))) (d := (some 38)) rfl (.no 6 37 true ((!r14) || (r10.2 != (0 : Int))) rfl rfl rfl rfl) rfl (fun hg => q_move (v := .int .i64 (r12.2)) rfl rfl) ?_
      refine ro_gval (g := (!((!r14) || (r10.2 != (0 : Int))))) (d := (some 39)) rfl (.no 6 37 true ((!r14) || (r10.2 != (0 : Int))) rfl rfl rfl rfl) rfl (fun hg => q_neq (a := r12.2) (b := (0 : Int)) rfl (gvb_yes hg) rfl) ?_
      refine ro_val (d := (some 40)) rfl (.free rfl) rfl (q_pickGF (a := ((!r14) || (r10.2 != (0 : Int)))) (c := (r12.2 != (0 : Int))) rfl rfl rfl rfl) ?_
      refine ro_nil ?_
      refine wp_if (b := (((!r14) || (r10.2 != (0 : Int))) || (r12.2 != (0 : Int)))) rfl h (fun hb37 h => ?_) (fun hb37 h => ?_)
      · refine wp_seq ?_
        refine wp_text [0, 1] rfl ?_
        refine ro_wp rfl (.free rfl) (wp_cl (d := (some 41)) rfl (q_call (k := 12) (l := []) rfl ent12 rfl) h ?_)
        intro r16 w15 h
        refine ro_val (d := (some 4)) rfl (.free rfl) rfl (q_assign (v := .bool (r16)) rfl rfl) ?_
        refine ro_nil ?_
        refine wp_ret ?_
        exact ret_ok rfl (.cons (.tmp (v := .bool (r16)) rfl) .nil) ⟨r16, rfl, h⟩
      · refine wp_skip ?_
        refine wp_seq ?_
        refine wp_text [0, 1, 2, 3, 4, 5, 6, 7, 8, 9, 10, 11, 12] rfl ?_
        obtain ⟨a17, w18, ha17, hw18, h⟩ := nwS_open h
        refine ro_val (d := (some 43)) rfl (.free rfl) rfl (q_row0 (T := (tInt .u8)) rfl Try.underlying25 ok5 inf5 ha17 hw18) ?_
        refine ro_val (d := (some 44)) rfl (.free rfl) rfl (q_move (v := tSlc.enc (r10.1)) rfl rfl) ?_
        refine ro_wp rfl (.free rfl) (wp_append (d := (some 45)) (T := (tInt .u8)) rfl rfl Try.underlying25 ⟨_, Try.underlying25⟩ ok5 inf5 rfl rfl (Nat.lt_of_lt_of_le Nat.zero_lt_one (Nat.le_of_ble_eq_true rfl)) rfl rfl h ?_)
        intro r20 w19 h
        refine ro_val (d := (some 46)) rfl (.free rfl) rfl (q_move (v := tSlc.enc (r12.1)) rfl rfl) ?_
        refine ro_wp rfl (.free rfl) (wp_append (d := (some 47)) (T := (tInt .u8)) rfl rfl Try.underlying25 ⟨_, Try.underlying25⟩ ok5 inf5 rfl rfl (Nat.lt_of_lt_of_le Nat.zero_lt_one (Nat.le_of_ble_eq_true rfl)) rfl rfl h ?_)
        intro r22 w21 h
        refine ro_wp rfl (.free rfl) (wp_cl (d := (some 48)) rfl (q_call (k := 18) (l := [tSlc.enc (r22)]) rfl ent18 rfl) h ?_)
        intro r24 w23 h
        refine ro_val (d := (some 42)) rfl (.free rfl) rfl (q_move (v := (tTup3 tSlc (tInt .i64) (tInt .i64)).enc (r24)) rfl rfl) ?_
        refine ro_val (d := (some 49)) rfl (.free rfl) rfl (q_extract (vs := #[tSlc.enc (r24.1), .int .i64 (r24.2.1), .int .i64 (r24.2.2)]) (v := tSlc.enc (r24.1)) rfl rfl rfl) ?_
        refine ro_val (d := (some 50)) rfl (.free rfl) rfl (q_extract (vs := #[tSlc.enc (r24.1), .int .i64 (r24.2.1), .int .i64 (r24.2.2)]) (v := .int .i64 (r24.2.1)) rfl rfl rfl) ?_
        refine ro_val (d := (some 51)) rfl (.free rfl) rfl (q_extract (vs := #[tSlc.enc (r24.1), .int .i64 (r24.2.1), .int .i64 (r24.2.2)]) (v := .int .i64 (r24.2.2)) rfl rfl rfl) ?_
        refine ro_val (d := (some 9)) rfl (.free rfl) rfl (q_assign (v := tSlc.enc (r24.1)) rfl rfl) ?_
        refine ro_val (d := (some 10)) rfl (.free rfl) rfl (q_assign (v := .int .i64 (r24.2.1)) rfl rfl) ?_
        refine ro_val (d := (some 11)) rfl (.free rfl) rfl (q_assign (v := .int .i64 (r24.2.2)) rfl rfl) ?_
        refine ro_nil ?_
        refine wp_seq ?_
        refine wp_seq ?_
        refine wp_text [0, 1, 2, 3, 4, 5] rfl ?_
        refine ro_val (d := (some 52)) rfl (.free rfl) rfl (q_move (v := tSlc.enc (l_1)) rfl rfl) ?_
        refine ro_val (d := (some 53)) rfl (.free rfl) rfl (q_len (s := l_1) rfl Try.underlying22 rfl) ?_
        refine ro_val (d := (some 54)) rfl (.free rfl) rfl (q_move (v := tSlc.enc (m_2)) rfl rfl) ?_
        refine ro_val (d := (some 55)) rfl (.free rfl) rfl (q_len (s := m_2) rfl Try.underlying22 rfl) ?_
        refine ro_val (d := (some 56)) rfl (.free rfl) rfl (q_add (a := (l_1.len : Int)) (b := (m_2.len : Int)) rfl rfl rfl) ?_
        refine ro_val (d := (some 57)) rfl (.free rfl) rfl (q_gtr (a := (IntKind.i64.wrap ((l_1.len : Int) + (m_2.len : Int)))) (b := (1000 : Int)) rfl rfl rfl) ?_
        refine ro_nil ?_
        refine wp_if (b := (decide ((IntKind.i64.wrap ((l_1.len : Int) + (m_2.len : Int))) > (1000 : Int)))) rfl h (fun hb36 h => ?_) (fun hb36 h => ?_)
        · refine wp_seq ?_
          refine wp_text [0, 1, 2, 3, 4, 5, 6, 7] rfl ?_
          refine ro_val (d := (some 58)) rfl (.free rfl) rfl (q_move (v := .int .i64 (r24.2.2)) rfl rfl) ?_
          refine ro_val (d := (some 59)) rfl (.free rfl) rfl (q_eql (a := r24.2.2) (b := (20 : Int)) rfl rfl rfl) ?_
          refine ro_val (d := (some 60)) rfl (.free rfl) rfl (q_move (v := .bool ((r24.2.2 == (20 : Int)))) rfl rfl) ?_
          refine ro_gval (g := (r24.2.2 == (20 : Int))) (d := (some 61)) rfl (.yes 2 60 true (r24.2.2 == (20 : Int)) rfl rfl rfl rfl) rfl (fun hg => q_move (v := tSlc.enc (r24.1)) rfl rfl) ?_
          refine ro_gval (g := (r24.2.2 == (20 : Int))) (d := (some 62)) rfl (.yes 2 60 true (r24.2.2 == (20 : Int)) rfl rfl rfl rfl) rfl (fun hg => q_len (s := r24.1) rfl Try.underlying22 (gvb_yes hg)) ?_
          refine ro_gval (g := (r24.2.2 == (20 : Int))) (d := (some 63)) rfl (.yes 2 60 true (r24.2.2 == (20 : Int)) rfl rfl rfl rfl) rfl (fun hg => q_eql (a := (r24.1.len : Int)) (b := (0 : Int)) rfl (gvb_yes hg) rfl) ?_
          refine ro_val (d := (some 64)) rfl (.free rfl) rfl (q_pickGT (a := (r24.2.2 == (20 : Int))) (b := ((r24.1.len : Int) == (0 : Int))) rfl rfl rfl rfl) ?_
          refine ro_val (d := (some 4)) rfl (.free rfl) rfl (q_assign (v := .bool (((r24.2.2 == (20 : Int)) && ((r24.1.len : Int) == (0 : Int))))) rfl rfl) ?_
          refine ro_nil ?_
          refine wp_ret ?_
          exact ret_ok rfl (.cons (.tmp (v := .bool (((r24.2.2 == (20 : Int)) && ((r24.1.len : Int) == (0 : Int))))) rfl) .nil) ⟨((r24.2.2 == (20 : Int)) && ((r24.1.len : Int) == (0 : Int))), rfl, h⟩
        · refine wp_skip ?_
          refine wp_seq ?_
          refine wp_text [0, 1, 2, 3, 4, 5, 6, 7, 8, 9, 10, 11] rfl ?_
          refine ro_val (d := (some 65)) rfl (.free rfl) rfl (q_move (v := .int .i64 (r24.2.2)) rfl rfl) ?_
          refine ro_val (d := (some 66)) rfl (.free rfl) rfl (q_eql (a := r24.2.2) (b := (0 : Int)) rfl rfl rfl) ?_
          refine ro_val (d := (some 67)) rfl (.free rfl) rfl (q_move (v := .bool ((r24.2.2 == (0 : Int)))) rfl rfl) ?_
          refine ro_join (σ := Bool) (J := fun (s : Bool) w => F8_j2 s w R) (fr := fun g (s : Bool) => upd (g) 75 (.bool (s))) [3, 4, 5, 6, 7, 8, 9, 10] [11] ?_ ?_
          · rintro t_25 g w26 h
            unfold F8_j2 at h
            refine ro_val (d := (some 4)) rfl (.free rfl) rfl (q_assign (v := .bool (t_25)) rfl rfl) ?_
            refine ro_nil ?_
            refine wp_ret ?_
            exact ret_ok rfl (.cons (.tmp (v := .bool (t_25)) rfl) .nil) ⟨t_25, rfl, h⟩
          · refine ro_if (b := (r24.2.2 == (0 : Int))) h (fun hb27 h => ?_) (fun hb27 h => ?_)
            · refine ro_val (d := (some 68)) rfl (.by_ 2 true 67 (r24.2.2 == (0 : Int)) rfl rfl rfl hb27) rfl (q_move (v := tSlc.enc (r24.1)) rfl rfl) ?_
              obtain ⟨a28, w29, ha28, hw29, h⟩ := nwS_open h
              refine ro_val (d := (some 69)) rfl (.by_ 2 true 67 (r24.2.2 == (0 : Int)) rfl rfl rfl hb27) rfl (q_row0 (T := T35) rfl Try.underlying22 ok36 inf36 ha28 hw29) ?_
              refine ro_val (d := (some 70)) rfl (.by_ 2 true 67 (r24.2.2 == (0 : Int)) rfl rfl rfl hb27) rfl (q_move (v := tSlc.enc (l_1)) rfl rfl) ?_
              refine ro_wp rfl (.by_ 2 true 67 (r24.2.2 == (0 : Int)) rfl rfl rfl hb27) (wp_append (d := (some 71)) (T := T35) rfl rfl Try.underlying22 ⟨_, Try.underlying22⟩ ok36 inf36 rfl rfl (Nat.lt_of_lt_of_le Nat.zero_lt_one (Nat.le_of_ble_eq_true rfl)) rfl rfl h ?_)
              intro r31 w30 h
              refine ro_val (d := (some 72)) rfl (.by_ 2 true 67 (r24.2.2 == (0 : Int)) rfl rfl rfl hb27) rfl (q_move (v := tSlc.enc (m_2)) rfl rfl) ?_
              refine ro_wp rfl (.by_ 2 true 67 (r24.2.2 == (0 : Int)) rfl rfl rfl hb27) (wp_append (d := (some 73)) (T := T35) rfl rfl Try.underlying22 ⟨_, Try.underlying22⟩ ok36 inf36 rfl rfl (Nat.lt_of_lt_of_le Nat.zero_lt_one (Nat.le_of_ble_eq_true rfl)) rfl rfl h ?_)
              intro r33 w32 h
              refine ro_wp rfl (.by_ 2 true 67 (r24.2.2 == (0 : Int)) rfl rfl rfl hb27) (wp_cl (d := (some 74)) rfl (q_call (k := 15) (l := [tSlc.enc (r24.1), tSlc.enc (r33)]) rfl ent15 rfl) h ?_)
              intro r35 w34 h
              refine ro_val (d := (some 75)) rfl (.free rfl) rfl (q_pickT (v := .bool (r35)) (b := (r24.2.2 == (0 : Int))) rfl rfl hb27 rfl) ?_
              refine ro_nil ?_
              exact ⟨(r35), _, arr (upd_step rfl rfl), h⟩
            · refine ro_bar (d := (some 68)) rfl (.by_ 2 true 67 (r24.2.2 == (0 : Int)) rfl rfl rfl hb27) rfl ?_
              refine ro_bar (d := (some 69)) rfl (.by_ 2 true 67 (r24.2.2 == (0 : Int)) rfl rfl rfl hb27) rfl ?_
              refine ro_bar (d := (some 70)) rfl (.by_ 2 true 67 (r24.2.2 == (0 : Int)) rfl rfl rfl hb27) rfl ?_
              refine ro_bar (d := (some 71)) rfl (.by_ 2 true 67 (r24.2.2 == (0 : Int)) rfl rfl rfl hb27) rfl ?_
              refine ro_bar (d := (some 72)) rfl (.by_ 2 true 67 (r24.2.2 == (0 : Int)) rfl rfl rfl hb27) rfl ?_
              refine ro_bar (d := (some 73)) rfl (.by_ 2 true 67 (r24.2.2 == (0 : Int)) rfl rfl rfl hb27) rfl ?_
              refine ro_bar (d := (some 74)) rfl (.by_ 2 true 67 (r24.2.2 == (0 : Int)) rfl rfl rfl hb27) rfl ?_
              refine ro_val (d := (some 75)) rfl (.free rfl) rfl (q_pickF (v := .bool (false)) (b := (r24.2.2 == (0 : Int))) rfl rfl hb27 rfl) ?_
              refine ro_nil ?_
              exact ⟨(false), _, arr (upd_step rfl rfl), h⟩
  · refine ro_if (b := (!r4)) h (fun hb39 h => ?_) (fun hb39 h => ?_)
    · refine ro_bar (d := (some 16)) rfl (.by_ 3 false 15 (!r4) rfl rfl rfl hb39) rfl ?_
      refine ro_bar (d := (some 17)) rfl (.by_ 3 false 15 (!r4) rfl rfl rfl hb39) rfl ?_
      refine ro_bar (d := (some 18)) rfl (.by_ 3 false 15 (!r4) rfl rfl rfl hb39) rfl ?_
      refine ro_val (d := (some 19)) rfl (.free rfl) rfl (q_pickT (v := .bool (true)) (b := (!r4)) rfl rfl hb39 rfl) ?_
      refine ro_nil ?_
      exact ⟨(true), _, arr (upd_step (upd_step (upd_step rfl rfl) rfl) rfl), h⟩
    · refine ro_val (d := (some 16)) rfl (.by_ 3 false 15 (!r4) rfl rfl rfl hb39) rfl (q_move (v := tSlc.enc (m_2)) rfl rfl) ?_
      refine ro_wp rfl (.by_ 3 false 15 (!r4) rfl rfl rfl hb39) (wp_cl (d := (some 17)) rfl (q_call (k := 11) (l := [tSlc.enc (m_2)]) rfl ent11 rfl) h ?_)
      intro r41 w40 h
      refine ro_val (d := (some 18)) rfl (.by_ 3 false 15 (!r4) rfl rfl rfl hb39) rfl (q_not (b := r41) rfl rfl) ?_
      refine ro_val (d := (some 19)) rfl (.free rfl) rfl (q_pickF (v := .bool ((!r41))) (b := (!r4)) rfl rfl hb39 rfl) ?_
      refine ro_nil ?_
      exact ⟨((!r41)), _, arr (upd_step (upd_step (upd_step rfl rfl) rfl) rfl), h⟩

end Go.Proofs.Ytjhenlajkhckfaa.Cf
