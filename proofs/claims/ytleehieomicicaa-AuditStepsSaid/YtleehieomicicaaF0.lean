/- Characteristic formulae of Go functions, and that they are. Printed by gen.py (own tool). -/
import Derived.Test.YtleehieomicicaaTy
namespace Go.Proofs.Ytleehieomicicaa.Cf
open Go
set_option maxRecDepth 100000
set_option maxHeartbeats 1000000
set_option linter.unusedVariables false
set_option linter.unusedSimpArgs false

-- moiety/moietylaw17.AuditChecks
def F3_j1 (t_13 : Bool) (w14 : World) (R : Bool → World → Prop) : Prop :=
  R t_13 w14
def F3 (at_1 : Int) (l_2 : Slc) (w : World) (R : Bool → World → Prop) : Prop :=
  cl Try.prog 9 [tSlc.enc (l_2)] (tTup2 tSlc tBool) w fun r4 w3 =>
  if (!r4.2) = true then (
    cl Try.prog 10 [] tBool w3 fun r6 w5 =>
    R r6 w5
  ) else (
    cl Try.prog 11 [.int .i64 (at_1), tSlc.enc (r4.1)] (tTup2 (tInt .i64) (tInt .i64)) w3 fun r8 w7 =>
    cl Try.prog 12 [.int .i64 (at_1), tSlc.enc (l_2)] (tTup2 (tInt .i64) (tInt .i64)) w7 fun r10 w9 =>
    cl Try.prog 10 [] tBool w9 fun r12 w11 =>
    if ((r12 && (r8.1 == r10.1)) && (r8.2 == r10.2)) = true then (
      cl Try.prog 13 [tSlc.enc (r4.1), tSlc.enc (l_2)] tBool w11 fun r17 w16 =>
      F3_j1 r17 w16 R
    ) else (
      F3_j1 false w11 R
    )
  )
theorem F3_ok {at_1 : Int} {l_2 : Slc} {w : World} {R : Bool → World → Prop} (h : F3 at_1 l_2 w R) : cl Try.prog 3 [.int .i64 (at_1), tSlc.enc (l_2)] tBool w R := by
  unfold F3 at h
  refine calls_start 47 Try.func3 rfl rfl (Nat.le_of_ble_eq_true rfl) ?_
  refine wp_seq ?_
  refine wp_text [0] rfl ?_
  refine ro_val (d := (some 4)) rfl (.free rfl) rfl (q_assign (v := .bool (false)) rfl rfl) ?_
  refine ro_nil ?_
  refine wp_seq ?_
  refine wp_text [0, 1, 2, 3, 4, 5, 6] rfl ?_
  refine ro_val (d := (some 12)) rfl (.free rfl) rfl (q_move (v := tSlc.enc (l_2)) rfl rfl) ?_
  refine ro_wp rfl (.free rfl) (wp_cl (d := (some 13)) rfl (q_call (k := 9) (l := [tSlc.enc (l_2)]) rfl ent9 rfl) h ?_)
  intro r4 w3 h
  refine ro_val (d := (some 11)) rfl (.free rfl) rfl (q_move (v := (tTup2 tSlc tBool).enc (r4)) rfl rfl) ?_
  refine ro_val (d := (some 14)) rfl (.free rfl) rfl (q_extract (vs := #[tSlc.enc (r4.1), .bool (r4.2)]) (v := tSlc.enc (r4.1)) rfl rfl rfl) ?_
  refine ro_val (d := (some 15)) rfl (.free rfl) rfl (q_extract (vs := #[tSlc.enc (r4.1), .bool (r4.2)]) (v := .bool (r4.2)) rfl rfl rfl) ?_
  refine ro_val (d := (some 5)) rfl (.free rfl) rfl (q_assign (v := tSlc.enc (r4.1)) rfl rfl) ?_
  refine ro_val (d := (some 6)) rfl (.free rfl) rfl (q_assign (v := .bool (r4.2)) rfl rfl) ?_
  refine ro_nil ?_
  refine wp_seq ?_
  refine wp_seq ?_
  refine wp_text [0, 1] rfl ?_
  refine ro_val (d := (some 16)) rfl (.free rfl) rfl (q_move (v := .bool (r4.2)) rfl rfl) ?_
  refine ro_val (d := (some 17)) rfl (.free rfl) rfl (q_not (b := r4.2) rfl rfl) ?_
  refine ro_nil ?_
  refine wp_if (b := (!r4.2)) rfl h (fun hb18 h => ?_) (fun hb18 h => ?_)
  · refine wp_seq ?_
    refine wp_text [0, 1] rfl ?_
    refine ro_wp rfl (.free rfl) (wp_cl (d := (some 18)) rfl (q_call (k := 10) (l := []) rfl ent10 rfl) h ?_)
    intro r6 w5 h
    refine ro_val (d := (some 4)) rfl (.free rfl) rfl (q_assign (v := .bool (r6)) rfl rfl) ?_
    refine ro_nil ?_
    refine wp_ret ?_
    exact ret_ok rfl (.cons (.tmp (v := .bool (r6)) rfl) .nil) ⟨r6, rfl, h⟩
  · refine wp_skip ?_
    refine wp_seq ?_
    refine wp_text [0, 1, 2, 3, 4, 5, 6, 7] rfl ?_
    refine ro_val (d := (some 20)) rfl (.free rfl) rfl (q_move (v := .int .i64 (at_1)) rfl rfl) ?_
    refine ro_val (d := (some 21)) rfl (.free rfl) rfl (q_move (v := tSlc.enc (r4.1)) rfl rfl) ?_
    refine ro_wp rfl (.free rfl) (wp_cl (d := (some 22)) rfl (q_call (k := 11) (l := [.int .i64 (at_1), tSlc.enc (r4.1)]) rfl ent11 rfl) h ?_)
    intro r8 w7 h
    refine ro_val (d := (some 19)) rfl (.free rfl) rfl (q_move (v := (tTup2 (tInt .i64) (tInt .i64)).enc (r8)) rfl rfl) ?_
    refine ro_val (d := (some 23)) rfl (.free rfl) rfl (q_extract (vs := #[.int .i64 (r8.1), .int .i64 (r8.2)]) (v := .int .i64 (r8.1)) rfl rfl rfl) ?_
    refine ro_val (d := (some 24)) rfl (.free rfl) rfl (q_extract (vs := #[.int .i64 (r8.1), .int .i64 (r8.2)]) (v := .int .i64 (r8.2)) rfl rfl rfl) ?_
    refine ro_val (d := (some 7)) rfl (.free rfl) rfl (q_assign (v := .int .i64 (r8.1)) rfl rfl) ?_
    refine ro_val (d := (some 8)) rfl (.free rfl) rfl (q_assign (v := .int .i64 (r8.2)) rfl rfl) ?_
    refine ro_nil ?_
    refine wp_seq ?_
    refine wp_text [0, 1, 2, 3, 4, 5, 6, 7] rfl ?_
    refine ro_val (d := (some 26)) rfl (.free rfl) rfl (q_move (v := .int .i64 (at_1)) rfl rfl) ?_
    refine ro_val (d := (some 27)) rfl (.free rfl) rfl (q_move (v := tSlc.enc (l_2)) rfl rfl) ?_
    refine ro_wp rfl (.free rfl) (wp_cl (d := (some 28)) rfl (q_call (k := 12) (l := [.int .i64 (at_1), tSlc.enc (l_2)]) rfl ent12 rfl) h ?_)
    intro r10 w9 h
    refine ro_val (d := (some 25)) rfl (.free rfl) rfl (q_move (v := (tTup2 (tInt .i64) (tInt .i64)).enc (r10)) rfl rfl) ?_
    refine ro_val (d := (some 29)) rfl (.free rfl) rfl (q_extract (vs := #[.int .i64 (r10.1), .int .i64 (r10.2)]) (v := .int .i64 (r10.1)) rfl rfl rfl) ?_
    refine ro_val (d := (some 30)) rfl (.free rfl) rfl (q_extract (vs := #[.int .i64 (r10.1), .int .i64 (r10.2)]) (v := .int .i64 (r10.2)) rfl rfl rfl) ?_
    refine ro_val (d := (some 9)) rfl (.free rfl) rfl (q_assign (v := .int .i64 (r10.1)) rfl rfl) ?_
    refine ro_val (d := (some 10)) rfl (.free rfl) rfl (q_assign (v := .int .i64 (r10.2)) rfl rfl) ?_
    refine ro_nil ?_
    refine wp_seq ?_
    refine wp_text [0, 1, 2, 3, 4, 5, 6, 7, 8, 9, 10, 11, 12, 13, 14, 15, 16] rfl ?_
    refine ro_wp rfl (.free rfl) (wp_cl (d := (some 31)) rfl (q_call (k := 10) (l := []) rfl ent10 rfl) h ?_)
    intro r12 w11 h
    refine ro_val (d := (some 32)) rfl (.free rfl) rfl (q_move (v := .bool (r12)) rfl rfl) ?_
    refine ro_gval (g := r12) (d := (some 33)) rfl (.yes 1 32 true r12 rfl rfl rfl rfl) rfl (fun hg => q_move (v := .int .i64 (r8.1)) rfl rfl) ?_
    refine ro_gval (g := r12) (d := (some 34)) rfl (.yes 1 32 true r12 rfl rfl rfl rfl) rfl (fun hg => q_move (v := .int .i64 (r10.1)) rfl rfl) ?_
    refine ro_gval (g := r12) (d := (some 35)) rfl (.yes 1 32 true r12 rfl rfl rfl rfl) rfl (fun hg => q_eql (a := r8.1) (b := r10.1) rfl (gvb_yes hg) (gvb_yes hg)) ?_
    refine ro_val (d := (some 36)) rfl (.free rfl) rfl (q_pickGT (a := r12) (b := (r8.1 == r10.1)) rfl rfl rfl rfl) ?_
    refine ro_val (d := (some 37)) rfl (.free rfl) rfl (q_move (v := .bool ((r12 && (r8.1 == r10.1)))) rfl rfl) ?_
    refine ro_gval (g := (r12 && (r8.1 == r10.1))) (d := (some 38)) rfl (.yes 6 37 true (r12 && (r8.1 == r10.1)) rfl rfl rfl rfl) rfl (fun hg => q_move (v := .int .i64 (r8.2)) rfl rfl) ?_
    refine ro_gval (g := (r12 && (r8.1 == r10.1))) (d := (some 39)) rfl (.yes 6 37 true (r12 && (r8.1 == r10.1)) rfl rfl rfl rfl) rfl (fun hg => q_move (v := .int .i64 (r10.2)) rfl rfl) ?_
    refine ro_gval (g := (r12 && (r8.1 == r10.1))) (d := (some 40)) rfl (.yes 6 37 true (r12 && (r8.1 == r10.1)) rfl rfl rfl rfl) rfl (fun hg => q_eql (a := r8.2) (b := r10.2) rfl (gvb_yes hg) (gvb_yes hg)) ?_
    refine ro_val (d := (some 41)) rfl (.free rfl) rfl (q_pickGT (a := (r12 && (r8.1 == r10.1))) (b := (r8.2 == r10.2)) rfl rfl rfl rfl) ?_
    refine ro_val (d := (some 42)) rfl (.free rfl) rfl (q_move (v := .bool (((r12 && (r8.1 == r10.1)) && (r8.2 == r10.2)))) rfl rfl) ?_
    refine ro_join (σ := Bool) (J := fun (s : Bool) w => F3_j1 s w R) (fr := fun g (s : Bool) => upd (g) 46 (.bool (s))) [12, 13, 14, 15] [16] ?_ ?_
    · rintro t_13 g w14 h
      unfold F3_j1 at h
      refine ro_val (d := (some 4)) rfl (.free rfl) rfl (q_assign (v := .bool (t_13)) rfl rfl) ?_
      refine ro_nil ?_
      refine wp_ret ?_
      exact ret_ok rfl (.cons (.tmp (v := .bool (t_13)) rfl) .nil) ⟨t_13, rfl, h⟩
    · refine ro_if (b := ((r12 && (r8.1 == r10.1)) && (r8.2 == r10.2))) h (fun hb15 h => ?_) (fun hb15 h => ?_)
      · refine ro_val (d := (some 43)) rfl (.by_ 11 true 42 ((r12 && (r8.1 == r10.1)) && (r8.2 == r10.2)) rfl rfl rfl hb15) rfl (q_move (v := tSlc.enc (r4.1)) rfl rfl) ?_
        refine ro_val (d := (some 44)) rfl (.by_ 11 true 42 ((r12 && (r8.1 == r10.1)) && (r8.2 == r10.2)) rfl rfl rfl hb15) rfl (q_move (v := tSlc.enc (l_2)) rfl rfl) ?_
        refine ro_wp rfl (.by_ 11 true 42 ((r12 && (r8.1 == r10.1)) && (r8.2 == r10.2)) rfl rfl rfl hb15) (wp_cl (d := (some 45)) rfl (q_call (k := 13) (l := [tSlc.enc (r4.1), tSlc.enc (l_2)]) rfl ent13 rfl) h ?_)
        intro r17 w16 h
        refine ro_val (d := (some 46)) rfl (.free rfl) rfl (q_pickT (v := .bool (r17)) (b := ((r12 && (r8.1 == r10.1)) && (r8.2 == r10.2))) rfl rfl hb15 rfl) ?_
        refine ro_nil ?_
        exact ⟨(r17), _, arr (upd_step rfl rfl), h⟩
      · refine ro_bar (d := (some 43)) rfl (.by_ 11 true 42 ((r12 && (r8.1 == r10.1)) && (r8.2 == r10.2)) rfl rfl rfl hb15) rfl ?_
        refine ro_bar (d := (some 44)) rfl (.by_ 11 true 42 ((r12 && (r8.1 == r10.1)) && (r8.2 == r10.2)) rfl rfl rfl hb15) rfl ?_
        refine ro_bar (d := (some 45)) rfl (.by_ 11 true 42 ((r12 && (r8.1 == r10.1)) && (r8.2 == r10.2)) rfl rfl rfl hb15) rfl ?_
        refine ro_val (d := (some 46)) rfl (.free rfl) rfl (q_pickF (v := .bool (false)) (b := ((r12 && (r8.1 == r10.1)) && (r8.2 == r10.2))) rfl rfl hb15 rfl) ?_
        refine ro_nil ?_
        exact ⟨(false), _, arr (upd_step rfl rfl), h⟩

-- moiety/moietylaw17.AuditMerges
def F4_j2 (t_15 : Bool) (w16 : World) (R : Bool → World → Prop) : Prop :=
  R t_15 w16
def F4_j1 (l_2 : Slc) (r4 : (Slc × Bool)) (t_13 : Bool) (w14 : World) (R : Bool → World → Prop) : Prop :=
  if t_13 = true then (
    cl Try.prog 13 [tSlc.enc (r4.1), tSlc.enc (l_2)] tBool w14 fun r19 w18 =>
    F4_j2 r19 w18 R
  ) else (
    F4_j2 false w14 R
  )
def F4 (at_1 : Int) (l_2 : Slc) (w : World) (R : Bool → World → Prop) : Prop :=
  cl Try.prog 9 [tSlc.enc (l_2)] (tTup2 tSlc tBool) w fun r4 w3 =>
  if (!r4.2) = true then (
    cl Try.prog 10 [] tBool w3 fun r6 w5 =>
    R r6 w5
  ) else (
    cl Try.prog 14 [.int .i64 (at_1), tSlc.enc (r4.1)] (tTup2 tSlc (tInt .i64)) w3 fun r8 w7 =>
    cl Try.prog 15 [.int .i64 (at_1), tSlc.enc (l_2)] (tTup2 tSlc (tInt .i64)) w7 fun r10 w9 =>
    cl Try.prog 10 [] tBool w9 fun r12 w11 =>
    if (r12 && (r8.2 == r10.2)) = true then (
      cl Try.prog 16 [tSlc.enc (r8.1), tSlc.enc (r10.1)] tBool w11 fun r22 w21 =>
      F4_j1 l_2 r4 r22 w21 R
    ) else (
      F4_j1 l_2 r4 false w11 R
    )
  )
theorem F4_ok {at_1 : Int} {l_2 : Slc} {w : World} {R : Bool → World → Prop} (h : F4 at_1 l_2 w R) : cl Try.prog 4 [.int .i64 (at_1), tSlc.enc (l_2)] tBool w R := by
  unfold F4 at h
  refine calls_start 47 Try.func4 rfl rfl (Nat.le_of_ble_eq_true rfl) ?_
  refine wp_seq ?_
  refine wp_text [0] rfl ?_
  refine ro_val (d := (some 4)) rfl (.free rfl) rfl (q_assign (v := .bool (false)) rfl rfl) ?_
  refine ro_nil ?_
  refine wp_seq ?_
  refine wp_text [0, 1, 2, 3, 4, 5, 6] rfl ?_
  refine ro_val (d := (some 12)) rfl (.free rfl) rfl (q_move (v := tSlc.enc (l_2)) rfl rfl) ?_
  refine ro_wp rfl (.free rfl) (wp_cl (d := (some 13)) rfl (q_call (k := 9) (l := [tSlc.enc (l_2)]) rfl ent9 rfl) h ?_)
  intro r4 w3 h
  refine ro_val (d := (some 11)) rfl (.free rfl) rfl (q_move (v := (tTup2 tSlc tBool).enc (r4)) rfl rfl) ?_
  refine ro_val (d := (some 14)) rfl (.free rfl) rfl (q_extract (vs := #[tSlc.enc (r4.1), .bool (r4.2)]) (v := tSlc.enc (r4.1)) rfl rfl rfl) ?_
  refine ro_val (d := (some 15)) rfl (.free rfl) rfl (q_extract (vs := #[tSlc.enc (r4.1), .bool (r4.2)]) (v := .bool (r4.2)) rfl rfl rfl) ?_
  refine ro_val (d := (some 5)) rfl (.free rfl) rfl (q_assign (v := tSlc.enc (r4.1)) rfl rfl) ?_
  refine ro_val (d := (some 6)) rfl (.free rfl) rfl (q_assign (v := .bool (r4.2)) rfl rfl) ?_
  refine ro_nil ?_
  refine wp_seq ?_
  refine wp_seq ?_
  refine wp_text [0, 1] rfl ?_
  refine ro_val (d := (some 16)) rfl (.free rfl) rfl (q_move (v := .bool (r4.2)) rfl rfl) ?_
  refine ro_val (d := (some 17)) rfl (.free rfl) rfl (q_not (b := r4.2) rfl rfl) ?_
  refine ro_nil ?_
  refine wp_if (b := (!r4.2)) rfl h (fun hb23 h => ?_) (fun hb23 h => ?_)
  · refine wp_seq ?_
    refine wp_text [0, 1] rfl ?_
    refine ro_wp rfl (.free rfl) (wp_cl (d := (some 18)) rfl (q_call (k := 10) (l := []) rfl ent10 rfl) h ?_)
    intro r6 w5 h
    refine ro_val (d := (some 4)) rfl (.free rfl) rfl (q_assign (v := .bool (r6)) rfl rfl) ?_
    refine ro_nil ?_
    refine wp_ret ?_
    exact ret_ok rfl (.cons (.tmp (v := .bool (r6)) rfl) .nil) ⟨r6, rfl, h⟩
  · refine wp_skip ?_
    refine wp_seq ?_
    refine wp_text [0, 1, 2, 3, 4, 5, 6, 7] rfl ?_
    refine ro_val (d := (some 20)) rfl (.free rfl) rfl (q_move (v := .int .i64 (at_1)) rfl rfl) ?_
    refine ro_val (d := (some 21)) rfl (.free rfl) rfl (q_move (v := tSlc.enc (r4.1)) rfl rfl) ?_
    refine ro_wp rfl (.free rfl) (wp_cl (d := (some 22)) rfl (q_call (k := 14) (l := [.int .i64 (at_1), tSlc.enc (r4.1)]) rfl ent14 rfl) h ?_)
    intro r8 w7 h
    refine ro_val (d := (some 19)) rfl (.free rfl) rfl (q_move (v := (tTup2 tSlc (tInt .i64)).enc (r8)) rfl rfl) ?_
    refine ro_val (d := (some 23)) rfl (.free rfl) rfl (q_extract (vs := #[tSlc.enc (r8.1), .int .i64 (r8.2)]) (v := tSlc.enc (r8.1)) rfl rfl rfl) ?_
    refine ro_val (d := (some 24)) rfl (.free rfl) rfl (q_extract (vs := #[tSlc.enc (r8.1), .int .i64 (r8.2)]) (v := .int .i64 (r8.2)) rfl rfl rfl) ?_
    refine ro_val (d := (some 7)) rfl (.free rfl) rfl (q_assign (v := tSlc.enc (r8.1)) rfl rfl) ?_
    refine ro_val (d := (some 8)) rfl (.free rfl) rfl (q_assign (v := .int .i64 (r8.2)) rfl rfl) ?_
    refine ro_nil ?_
    refine wp_seq ?_
    refine wp_text [0, 1, 2, 3, 4, 5, 6, 7] rfl ?_
    refine ro_val (d := (some 26)) rfl (.free rfl) rfl (q_move (v := .int .i64 (at_1)) rfl rfl) ?_
    refine ro_val (d := (some 27)) rfl (.free rfl) rfl (q_move (v := tSlc.enc (l_2)) rfl rfl) ?_
    refine ro_wp rfl (.free rfl) (wp_cl (d := (some 28)) rfl (q_call (k := 15) (l := [.int .i64 (at_1), tSlc.enc (l_2)]) rfl ent15 rfl) h ?_)
    intro r10 w9 h
    refine ro_val (d := (some 25)) rfl (.free rfl) rfl (q_move (v := (tTup2 tSlc (tInt .i64)).enc (r10)) rfl rfl) ?_
    refine ro_val (d := (some 29)) rfl (.free rfl) rfl (q_extract (vs := #[tSlc.enc (r10.1), .int .i64 (r10.2)]) (v := tSlc.enc (r10.1)) rfl rfl rfl) ?_
    refine ro_val (d := (some 30)) rfl (.free rfl) rfl (q_extract (vs := #[tSlc.enc (r10.1), .int .i64 (r10.2)]) (v := .int .i64 (r10.2)) rfl rfl rfl) ?_
    refine ro_val (d := (some 9)) rfl (.free rfl) rfl (q_assign (v := tSlc.enc (r10.1)) rfl rfl) ?_
    refine ro_val (d := (some 10)) rfl (.free rfl) rfl (q_assign (v := .int .i64 (r10.2)) rfl rfl) ?_
    refine ro_nil ?_
    refine wp_seq ?_
    refine wp_text [0, 1, 2, 3, 4, 5, 6, 7, 8, 9, 10, 11, 12, 13, 14, 15, 16] rfl ?_
    refine ro_wp rfl (.free rfl) (wp_cl (d := (some 31)) rfl (q_call (k := 10) (l := []) rfl ent10 rfl) h ?_)
    intro r12 w11 h
    refine ro_val (d := (some 32)) rfl (.free rfl) rfl (q_move (v := .bool (r12)) rfl rfl) ?_
    refine ro_gval (g := r12) (d := (some 33)) rfl (.yes 1 32 true r12 rfl rfl rfl rfl) rfl (fun hg => q_move (v := .int .i64 (r8.2)) rfl rfl) ?_
    refine ro_gval (g := r12) (d := (some 34)) rfl (.yes 1 32 true r12 rfl rfl rfl rfl) rfl (fun hg => q_move (v := .int .i64 (r10.2)) rfl rfl) ?_
    refine ro_gval (g := r12) (d := (some 35)) rfl (.yes 1 32 true r12 rfl rfl rfl rfl) rfl (fun hg => q_eql (a := r8.2) (b := r10.2) rfl (gvb_yes hg) (gvb_yes hg)) ?_
    refine ro_val (d := (some 36)) rfl (.free rfl) rfl (q_pickGT (a := r12) (b := (r8.2 == r10.2)) rfl rfl rfl rfl) ?_
    refine ro_val (d := (some 37)) rfl (.free rfl) rfl (q_move (v := .bool ((r12 && (r8.2 == r10.2)))) rfl rfl) ?_
    refine ro_join (σ := Bool) (J := fun (s : Bool) w => F4_j1 l_2 r4 s w R) (fr := fun g (s : Bool) => upd (upd (upd (g) 1 (tSlc.enc (l_2))) 5 (tSlc.enc (r4.1))) 41 (.bool (s))) [7, 8, 9, 10] [11, 12, 13, 14, 15, 16] ?_ ?_
    · rintro t_13 g w14 h
      unfold F4_j1 at h
      refine ro_val (d := (some 42)) rfl (.free rfl) rfl (q_move (v := .bool (t_13)) rfl rfl) ?_
      refine ro_join (σ := Bool) (J := fun (s : Bool) w => F4_j2 s w R) (fr := fun g (s : Bool) => upd (g) 46 (.bool (s))) [12, 13, 14, 15] [16] ?_ ?_
      · rintro t_15 g w16 h
        unfold F4_j2 at h
        refine ro_val (d := (some 4)) rfl (.free rfl) rfl (q_assign (v := .bool (t_15)) rfl rfl) ?_
        refine ro_nil ?_
        refine wp_ret ?_
        exact ret_ok rfl (.cons (.tmp (v := .bool (t_15)) rfl) .nil) ⟨t_15, rfl, h⟩
      · refine ro_if (b := t_13) h (fun hb17 h => ?_) (fun hb17 h => ?_)
        · refine ro_val (d := (some 43)) rfl (.by_ 11 true 42 t_13 rfl rfl rfl hb17) rfl (q_move (v := tSlc.enc (r4.1)) rfl rfl) ?_
          refine ro_val (d := (some 44)) rfl (.by_ 11 true 42 t_13 rfl rfl rfl hb17) rfl (q_move (v := tSlc.enc (l_2)) rfl rfl) ?_
          refine ro_wp rfl (.by_ 11 true 42 t_13 rfl rfl rfl hb17) (wp_cl (d := (some 45)) rfl (q_call (k := 13) (l := [tSlc.enc (r4.1), tSlc.enc (l_2)]) rfl ent13 rfl) h ?_)
          intro r19 w18 h
          refine ro_val (d := (some 46)) rfl (.free rfl) rfl (q_pickT (v := .bool (r19)) (b := t_13) rfl rfl hb17 rfl) ?_
          refine ro_nil ?_
          exact ⟨(r19), _, arr (upd_step rfl rfl), h⟩
        · refine ro_bar (d := (some 43)) rfl (.by_ 11 true 42 t_13 rfl rfl rfl hb17) rfl ?_
          refine ro_bar (d := (some 44)) rfl (.by_ 11 true 42 t_13 rfl rfl rfl hb17) rfl ?_
          refine ro_bar (d := (some 45)) rfl (.by_ 11 true 42 t_13 rfl rfl rfl hb17) rfl ?_
          refine ro_val (d := (some 46)) rfl (.free rfl) rfl (q_pickF (v := .bool (false)) (b := t_13) rfl rfl hb17 rfl) ?_
          refine ro_nil ?_
          exact ⟨(false), _, arr (upd_step rfl rfl), h⟩
    · refine ro_if (b := (r12 && (r8.2 == r10.2))) h (fun hb20 h => ?_) (fun hb20 h => ?_)
      · refine ro_val (d := (some 38)) rfl (.by_ 6 true 37 (r12 && (r8.2 == r10.2)) rfl rfl rfl hb20) rfl (q_move (v := tSlc.enc (r8.1)) rfl rfl) ?_
        refine ro_val (d := (some 39)) rfl (.by_ 6 true 37 (r12 && (r8.2 == r10.2)) rfl rfl rfl hb20) rfl (q_move (v := tSlc.enc (r10.1)) rfl rfl) ?_
        refine ro_wp rfl (.by_ 6 true 37 (r12 && (r8.2 == r10.2)) rfl rfl rfl hb20) (wp_cl (d := (some 40)) rfl (q_call (k := 16) (l := [tSlc.enc (r8.1), tSlc.enc (r10.1)]) rfl ent16 rfl) h ?_)
        intro r22 w21 h
        refine ro_val (d := (some 41)) rfl (.free rfl) rfl (q_pickT (v := .bool (r22)) (b := (r12 && (r8.2 == r10.2))) rfl rfl hb20 rfl) ?_
        refine ro_nil ?_
        exact ⟨(r22), _, arr (upd_step (upd_step (upd_step rfl rfl) rfl) rfl), h⟩
      · refine ro_bar (d := (some 38)) rfl (.by_ 6 true 37 (r12 && (r8.2 == r10.2)) rfl rfl rfl hb20) rfl ?_
        refine ro_bar (d := (some 39)) rfl (.by_ 6 true 37 (r12 && (r8.2 == r10.2)) rfl rfl rfl hb20) rfl ?_
        refine ro_bar (d := (some 40)) rfl (.by_ 6 true 37 (r12 && (r8.2 == r10.2)) rfl rfl rfl hb20) rfl ?_
        refine ro_val (d := (some 41)) rfl (.free rfl) rfl (q_pickF (v := .bool (false)) (b := (r12 && (r8.2 == r10.2))) rfl rfl hb20 rfl) ?_
        refine ro_nil ?_
        exact ⟨(false), _, arr (upd_step (upd_step (upd_step rfl rfl) rfl) rfl), h⟩

-- moiety/moietylaw17.AuditDiffs
def F5_j1 (t_11 : Bool) (w12 : World) (R : Bool → World → Prop) : Prop :=
  R t_11 w12
def F5 (a_1 : Slc) (b_2 : Slc) (w : World) (R : Bool → World → Prop) : Prop :=
  if ((decide ((a_1.len : Int) > (200 : Int))) || (decide ((b_2.len : Int) > (200 : Int)))) = true then (
    cl Try.prog 10 [] tBool w fun r4 w3 =>
    R r4 w3
  ) else (
    cl Try.prog 17 [tSlc.enc (a_1), tSlc.enc (b_2)] (tTup2 tSlc (tInt .i64)) w fun r6 w5 =>
    cl Try.prog 18 [tSlc.enc (a_1), tSlc.enc (b_2)] (tTup2 tSlc (tInt .i64)) w5 fun r8 w7 =>
    cl Try.prog 10 [] tBool w7 fun r10 w9 =>
    if (r10 && (r6.2 == r8.2)) = true then (
      cl Try.prog 16 [tSlc.enc (r6.1), tSlc.enc (r8.1)] tBool w9 fun r15 w14 =>
      F5_j1 r15 w14 R
    ) else (
      F5_j1 false w9 R
    )
  )
theorem F5_ok {a_1 : Slc} {b_2 : Slc} {w : World} {R : Bool → World → Prop} (h : F5 a_1 b_2 w R) : cl Try.prog 5 [tSlc.enc (a_1), tSlc.enc (b_2)] tBool w R := by
  unfold F5 at h
  refine calls_start 41 Try.func5 rfl rfl (Nat.le_of_ble_eq_true rfl) ?_
  refine wp_seq ?_
  refine wp_text [0] rfl ?_
  refine ro_val (d := (some 4)) rfl (.free rfl) rfl (q_assign (v := .bool (false)) rfl rfl) ?_
  refine ro_nil ?_
  refine wp_seq ?_
  refine wp_seq ?_
  refine wp_text [0, 1, 2, 3, 4, 5, 6, 7] rfl ?_
  refine ro_val (d := (some 9)) rfl (.free rfl) rfl (q_move (v := tSlc.enc (a_1)) rfl rfl) ?_
  refine ro_val (d := (some 10)) rfl (.free rfl) rfl (q_len (s := a_1) rfl Try.underlying31 rfl) ?_
  refine ro_val (d := (some 11)) rfl (.free rfl) rfl (q_gtr (a := (a_1.len : Int)) (b := (200 : Int)) rfl rfl rfl) ?_
  refine ro_val (d := (some 12)) rfl (.free rfl) rfl (q_move (v := .bool ((decide ((a_1.len : Int) > (200 : Int))))) rfl rfl) ?_
  refine ro_gval (g := (!(decide ((a_1.len : Int) > (200 : Int))))) (d := (some 13)) rfl (.no 3 12 true (decide ((a_1.len : Int) > (200 : Int))) rfl rfl rfl rfl) rfl (fun hg => q_move (v := tSlc.enc (b_2)) rfl rfl) ?_
  refine ro_gval (g := (!(decide ((a_1.len : Int) > (200 : Int))))) (d := (some 14)) rfl (.no 3 12 true (decide ((a_1.len : Int) > (200 : Int))) rfl rfl rfl rfl) rfl (fun hg => q_len (s := b_2) rfl Try.underlying31 (gvb_yes hg)) ?_
  refine ro_gval (g := (!(decide ((a_1.len : Int) > (200 : Int))))) (d := (some 15)) rfl (.no 3 12 true (decide ((a_1.len : Int) > (200 : Int))) rfl rfl rfl rfl) rfl (fun hg => q_gtr (a := (b_2.len : Int)) (b := (200 : Int)) rfl (gvb_yes hg) rfl) ?_
  refine ro_val (d := (some 16)) rfl (.free rfl) rfl (q_pickGF (a := (decide ((a_1.len : Int) > (200 : Int)))) (c := (decide ((b_2.len : Int) > (200 : Int)))) rfl rfl rfl rfl) ?_
  refine ro_nil ?_
  refine wp_if (b := ((decide ((a_1.len : Int) > (200 : Int))) || (decide ((b_2.len : Int) > (200 : Int))))) rfl h (fun hb16 h => ?_) (fun hb16 h => ?_)
  · refine wp_seq ?_
    refine wp_text [0, 1] rfl ?_
    refine ro_wp rfl (.free rfl) (wp_cl (d := (some 17)) rfl (q_call (k := 10) (l := []) rfl ent10 rfl) h ?_)
    intro r4 w3 h
    refine ro_val (d := (some 4)) rfl (.free rfl) rfl (q_assign (v := .bool (r4)) rfl rfl) ?_
    refine ro_nil ?_
    refine wp_ret ?_
    exact ret_ok rfl (.cons (.tmp (v := .bool (r4)) rfl) .nil) ⟨r4, rfl, h⟩
  · refine wp_skip ?_
    refine wp_seq ?_
    refine wp_text [0, 1, 2, 3, 4, 5, 6, 7] rfl ?_
    refine ro_val (d := (some 19)) rfl (.free rfl) rfl (q_move (v := tSlc.enc (a_1)) rfl rfl) ?_
    refine ro_val (d := (some 20)) rfl (.free rfl) rfl (q_move (v := tSlc.enc (b_2)) rfl rfl) ?_
    refine ro_wp rfl (.free rfl) (wp_cl (d := (some 21)) rfl (q_call (k := 17) (l := [tSlc.enc (a_1), tSlc.enc (b_2)]) rfl ent17 rfl) h ?_)
    intro r6 w5 h
    refine ro_val (d := (some 18)) rfl (.free rfl) rfl (q_move (v := (tTup2 tSlc (tInt .i64)).enc (r6)) rfl rfl) ?_
    refine ro_val (d := (some 22)) rfl (.free rfl) rfl (q_extract (vs := #[tSlc.enc (r6.1), .int .i64 (r6.2)]) (v := tSlc.enc (r6.1)) rfl rfl rfl) ?_
    refine ro_val (d := (some 23)) rfl (.free rfl) rfl (q_extract (vs := #[tSlc.enc (r6.1), .int .i64 (r6.2)]) (v := .int .i64 (r6.2)) rfl rfl rfl) ?_
    refine ro_val (d := (some 5)) rfl (.free rfl) rfl (q_assign (v := tSlc.enc (r6.1)) rfl rfl) ?_
    refine ro_val (d := (some 6)) rfl (.free rfl) rfl (q_assign (v := .int .i64 (r6.2)) rfl rfl) ?_
    refine ro_nil ?_
    refine wp_seq ?_
    refine wp_text [0, 1, 2, 3, 4, 5, 6, 7] rfl ?_
    refine ro_val (d := (some 25)) rfl (.free rfl) rfl (q_move (v := tSlc.enc (a_1)) rfl rfl) ?_
    refine ro_val (d := (some 26)) rfl (.free rfl) rfl (q_move (v := tSlc.enc (b_2)) rfl rfl) ?_
    refine ro_wp rfl (.free rfl) (wp_cl (d := (some 27)) rfl (q_call (k := 18) (l := [tSlc.enc (a_1), tSlc.enc (b_2)]) rfl ent18 rfl) h ?_)
    intro r8 w7 h
    refine ro_val (d := (some 24)) rfl (.free rfl) rfl (q_move (v := (tTup2 tSlc (tInt .i64)).enc (r8)) rfl rfl) ?_
    refine ro_val (d := (some 28)) rfl (.free rfl) rfl (q_extract (vs := #[tSlc.enc (r8.1), .int .i64 (r8.2)]) (v := tSlc.enc (r8.1)) rfl rfl rfl) ?_
    refine ro_val (d := (some 29)) rfl (.free rfl) rfl (q_extract (vs := #[tSlc.enc (r8.1), .int .i64 (r8.2)]) (v := .int .i64 (r8.2)) rfl rfl rfl) ?_
    refine ro_val (d := (some 7)) rfl (.free rfl) rfl (q_assign (v := tSlc.enc (r8.1)) rfl rfl) ?_
    refine ro_val (d := (some 8)) rfl (.free rfl) rfl (q_assign (v := .int .i64 (r8.2)) rfl rfl) ?_
    refine ro_nil ?_
    refine wp_seq ?_
    refine wp_text [0, 1, 2, 3, 4, 5, 6, 7, 8, 9, 10, 11] rfl ?_
    refine ro_wp rfl (.free rfl) (wp_cl (d := (some 30)) rfl (q_call (k := 10) (l := []) rfl ent10 rfl) h ?_)
    intro r10 w9 h
    refine ro_val (d := (some 31)) rfl (.free rfl) rfl (q_move (v := .bool (r10)) rfl rfl) ?_
    refine ro_gval (g := r10) (d := (some 32)) rfl (.yes 1 31 true r10 rfl rfl rfl rfl) rfl (fun hg => q_move (v := .int .i64 (r6.2)) rfl rfl) ?_
    refine ro_gval (g := r10) (d := (some 33)) rfl (.yes 1 31 true r10 rfl rfl rfl rfl) rfl (fun hg => q_move (v := .int .i64 (r8.2)) rfl rfl) ?_
    refine ro_gval (g := r10) (d := (some 34)) rfl (.yes 1 31 true r10 rfl rfl rfl rfl) rfl (fun hg => q_eql (a := r6.2) (b := r8.2) rfl (gvb_yes hg) (gvb_yes hg)) ?_
    refine ro_val (d := (some 35)) rfl (.free rfl) rfl (q_pickGT (a := r10) (b := (r6.2 == r8.2)) rfl rfl rfl rfl) ?_
    refine ro_val (d := (some 36)) rfl (.free rfl) rfl (q_move (v := .bool ((r10 && (r6.2 == r8.2)))) rfl rfl) ?_
    refine ro_join (σ := Bool) (J := fun (s : Bool) w => F5_j1 s w R) (fr := fun g (s : Bool) => upd (g) 40 (.bool (s))) [7, 8, 9, 10] [11] ?_ ?_
    · rintro t_11 g w12 h
      unfold F5_j1 at h
      refine ro_val (d := (some 4)) rfl (.free rfl) rfl (q_assign (v := .bool (t_11)) rfl rfl) ?_
      refine ro_nil ?_
      refine wp_ret ?_
      exact ret_ok rfl (.cons (.tmp (v := .bool (t_11)) rfl) .nil) ⟨t_11, rfl, h⟩
    · refine ro_if (b := (r10 && (r6.2 == r8.2))) h (fun hb13 h => ?_) (fun hb13 h => ?_)
      · refine ro_val (d := (some 37)) rfl (.by_ 6 true 36 (r10 && (r6.2 == r8.2)) rfl rfl rfl hb13) rfl (q_move (v := tSlc.enc (r6.1)) rfl rfl) ?_
        refine ro_val (d := (some 38)) rfl (.by_ 6 true 36 (r10 && (r6.2 == r8.2)) rfl rfl rfl hb13) rfl (q_move (v := tSlc.enc (r8.1)) rfl rfl) ?_
        refine ro_wp rfl (.by_ 6 true 36 (r10 && (r6.2 == r8.2)) rfl rfl rfl hb13) (wp_cl (d := (some 39)) rfl (q_call (k := 16) (l := [tSlc.enc (r6.1), tSlc.enc (r8.1)]) rfl ent16 rfl) h ?_)
        intro r15 w14 h
        refine ro_val (d := (some 40)) rfl (.free rfl) rfl (q_pickT (v := .bool (r15)) (b := (r10 && (r6.2 == r8.2))) rfl rfl hb13 rfl) ?_
        refine ro_nil ?_
        exact ⟨(r15), _, arr (upd_step rfl rfl), h⟩
      · refine ro_bar (d := (some 37)) rfl (.by_ 6 true 36 (r10 && (r6.2 == r8.2)) rfl rfl rfl hb13) rfl ?_
        refine ro_bar (d := (some 38)) rfl (.by_ 6 true 36 (r10 && (r6.2 == r8.2)) rfl rfl rfl hb13) rfl ?_
        refine ro_bar (d := (some 39)) rfl (.by_ 6 true 36 (r10 && (r6.2 == r8.2)) rfl rfl rfl hb13) rfl ?_
        refine ro_val (d := (some 40)) rfl (.free rfl) rfl (q_pickF (v := .bool (false)) (b := (r10 && (r6.2 == r8.2))) rfl rfl hb13 rfl) ?_
        refine ro_nil ?_
        exact ⟨(false), _, arr (upd_step rfl rfl), h⟩

end Go.Proofs.Ytleehieomicicaa.Cf
