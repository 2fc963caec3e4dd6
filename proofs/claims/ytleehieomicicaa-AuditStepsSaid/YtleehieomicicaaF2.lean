/- Characteristic formulae of Go functions, and that they are. Printed by gen.py (own tool). -/
import Derived.Test.YtleehieomicicaaTy
namespace Go.Proofs.Ytleehieomicicaa.Cf
open Go
set_option maxRecDepth 100000
set_option maxHeartbeats 1000000
set_option linter.unusedVariables false
set_option linter.unusedSimpArgs false

-- moiety/moietylaw17.AuditAdds
def F7_l1 (a_1 : Slc) (b_2 : Slc) (r6 : (Slc × Int)) (r8 : (Slc × Int)) (i_13 : Int) (w14 : World) (K15 : Int → World → Prop) (R : Bool → World → Prop) : Prop :=
  if (decide (i_13 < (r6.1.len : Int))) = true then (
    dr w14 fun w16 =>
    ex (IxA r6.1 2 i_13) fun a17 =>
    ex (RdAt (tInt .i64) (a17.add 1) w16) fun x18 =>
    ex (fun x => (!(x18 == (0 : Int))) = true → (IxA r8.1 2 i_13) x) fun a19 =>
    ex (fun x => (!(x18 == (0 : Int))) = true → (IxA r6.1 2 i_13) x) fun a20 =>
    ex (fun x => (!(x18 == (0 : Int))) = true → (RdAt (tInt .i64) (a19.add 1) w16) x) fun x21 =>
    ex (fun x => (!(x18 == (0 : Int))) = true → (RdAt (tInt .i64) (a20.add 1) w16) x) fun x22 =>
    ex (fun x => (!((x18 == (0 : Int)) || (x21 != (IntKind.i64.wrap (0 - x22))))) = true → (IxA r8.1 2 i_13) x) fun a23 =>
    ex (fun x => (!((x18 == (0 : Int)) || (x21 != (IntKind.i64.wrap (0 - x22))))) = true → (IxA r6.1 2 i_13) x) fun a24 =>
    ex (fun x => (!((x18 == (0 : Int)) || (x21 != (IntKind.i64.wrap (0 - x22))))) = true → (RdAt (tInt .i64) (a23.add 0) w16) x) fun x25 =>
    ex (fun x => (!((x18 == (0 : Int)) || (x21 != (IntKind.i64.wrap (0 - x22))))) = true → (RdAt (tInt .i64) (a24.add 0) w16) x) fun x26 =>
    if (((x18 == (0 : Int)) || (x21 != (IntKind.i64.wrap (0 - x22)))) || (x25 != x26)) = true then (
      R false w16
    ) else (
      K15 ((IntKind.i64.wrap (i_13 + (1 : Int)))) w16
    )
  ) else (
    cl Try.prog 19 [tSlc.enc (a_1), tSlc.enc (r6.1)] tSlc w14 fun r29 w28 =>
    cl Try.prog 19 [tSlc.enc (b_2), tSlc.enc ((⟨none, 0, 0⟩ : Slc))] tSlc w28 fun r31 w30 =>
    cl Try.prog 16 [tSlc.enc (r29), tSlc.enc (r31)] tBool w30 fun r33 w32 =>
    R r33 w32
  )
def F7 (a_1 : Slc) (b_2 : Slc) (w : World) (R : Bool → World → Prop) : Prop :=
  if ((decide ((a_1.len : Int) > (200 : Int))) || (decide ((b_2.len : Int) > (200 : Int)))) = true then (
    cl Try.prog 10 [] tBool w fun r4 w3 =>
    R r4 w3
  ) else (
    cl Try.prog 17 [tSlc.enc (a_1), tSlc.enc (b_2)] (tTup2 tSlc (tInt .i64)) w fun r6 w5 =>
    cl Try.prog 17 [tSlc.enc (b_2), tSlc.enc (a_1)] (tTup2 tSlc (tInt .i64)) w5 fun r8 w7 =>
    cl Try.prog 17 [tSlc.enc (b_2), tSlc.enc (b_2)] (tTup2 tSlc (tInt .i64)) w7 fun r10 w9 =>
    cl Try.prog 10 [] tBool w9 fun r12 w11 =>
    if ((!r12) || (r6.2 != r8.2)) = true then (
      R false w11
    ) else (
      if (r6.2 != (0 : Int)) = true then (
        R (((r6.1.len : Int) == (0 : Int)) && ((r8.1.len : Int) == (0 : Int))) w11
      ) else (
        if (((r10.2 != (0 : Int)) || (decide ((r10.1.len : Int) > (0 : Int)))) || ((r8.1.len : Int) != (r6.1.len : Int))) = true then (
          R false w11
        ) else (
          lp (fun (s : Int) w K => F7_l1 a_1 b_2 r6 r8 s w K R) ((0 : Int)) w11
        )
      )
    )
  )
theorem F7_ok {a_1 : Slc} {b_2 : Slc} {w : World} {R : Bool → World → Prop} (h : F7 a_1 b_2 w R) : cl Try.prog 7 [tSlc.enc (a_1), tSlc.enc (b_2)] tBool w R := by
  unfold F7 at h
  refine calls_start 115 Try.func7 rfl rfl (Nat.le_of_ble_eq_true rfl) ?_
  refine wp_seq ?_
  refine wp_text [0] rfl ?_
  refine ro_val (d := (some 4)) rfl (.free rfl) rfl (q_assign (v := .bool (false)) rfl rfl) ?_
  refine ro_nil ?_
  refine wp_seq ?_
  refine wp_seq ?_
  refine wp_text [0, 1, 2, 3, 4, 5, 6, 7] rfl ?_
  refine ro_val (d := (some 12)) rfl (.free rfl) rfl (q_move (v := tSlc.enc (a_1)) rfl rfl) ?_
  refine ro_val (d := (some 13)) rfl (.free rfl) rfl (q_len (s := a_1) rfl Try.underlying31 rfl) ?_
  refine ro_val (d := (some 14)) rfl (.free rfl) rfl (q_gtr (a := (a_1.len : Int)) (b := (200 : Int)) rfl rfl rfl) ?_
  refine ro_val (d := (some 15)) rfl (.free rfl) rfl (q_move (v := .bool ((decide ((a_1.len : Int) > (200 : Int))))) rfl rfl) ?_
  refine ro_gval (g := (!(decide ((a_1.len : Int) > (200 : Int))))) (d := (some 16)) rfl (.no 3 15 true (decide ((a_1.len : Int) > (200 : Int))) rfl rfl rfl rfl) rfl (fun hg => q_move (v := tSlc.enc (b_2)) rfl rfl) ?_
  refine ro_gval (g := (!(decide ((a_1.len : Int) > (200 : Int))))) (d := (some 17)) rfl (.no 3 15 true (decide ((a_1.len : Int) > (200 : Int))) rfl rfl rfl rfl) rfl (fun hg => q_len (s := b_2) rfl Try.underlying31 (gvb_yes hg)) ?_
  refine ro_gval (g := (!(decide ((a_1.len : Int) > (200 : Int))))) (d := (some 18)) rfl (.no 3 15 true (decide ((a_1.len : Int) > (200 : Int))) rfl rfl rfl rfl) rfl (fun hg => q_gtr (a := (b_2.len : Int)) (b := (200 : Int)) rfl (gvb_yes hg) rfl) ?_
  refine ro_val (d := (some 19)) rfl (.free rfl) rfl (q_pickGF (a := (decide ((a_1.len : Int) > (200 : Int)))) (c := (decide ((b_2.len : Int) > (200 : Int)))) rfl rfl rfl rfl) ?_
  refine ro_nil ?_
  refine wp_if (b := ((decide ((a_1.len : Int) > (200 : Int))) || (decide ((b_2.len : Int) > (200 : Int))))) rfl h (fun hb38 h => ?_) (fun hb38 h => ?_)
  · refine wp_seq ?_
    refine wp_text [0, 1] rfl ?_
    refine ro_wp rfl (.free rfl) (wp_cl (d := (some 20)) rfl (q_call (k := 10) (l := []) rfl ent10 rfl) h ?_)
    intro r4 w3 h
    refine ro_val (d := (some 4)) rfl (.free rfl) rfl (q_assign (v := .bool (r4)) rfl rfl) ?_
    refine ro_nil ?_
    refine wp_ret ?_
    exact ret_ok rfl (.cons (.tmp (v := .bool (r4)) rfl) .nil) ⟨r4, rfl, h⟩
  · refine wp_skip ?_
    refine wp_seq ?_
    refine wp_text [0, 1, 2, 3, 4, 5, 6, 7] rfl ?_
    refine ro_val (d := (some 22)) rfl (.free rfl) rfl (q_move (v := tSlc.enc (a_1)) rfl rfl) ?_
    refine ro_val (d := (some 23)) rfl (.free rfl) rfl (q_move (v := tSlc.enc (b_2)) rfl rfl) ?_
    refine ro_wp rfl (.free rfl) (wp_cl (d := (some 24)) rfl (q_call (k := 17) (l := [tSlc.enc (a_1), tSlc.enc (b_2)]) rfl ent17 rfl) h ?_)
    intro r6 w5 h
    refine ro_val (d := (some 21)) rfl (.free rfl) rfl (q_move (v := (tTup2 tSlc (tInt .i64)).enc (r6)) rfl rfl) ?_
    refine ro_val (d := (some 25)) rfl (.free rfl) rfl (q_extract (vs := #[tSlc.enc (r6.1), .int .i64 (r6.2)]) (v := tSlc.enc (r6.1)) rfl rfl rfl) ?_
    refine ro_val (d := (some 26)) rfl (.free rfl) rfl (q_extract (vs := #[tSlc.enc (r6.1), .int .i64 (r6.2)]) (v := .int .i64 (r6.2)) rfl rfl rfl) ?_
    refine ro_val (d := (some 5)) rfl (.free rfl) rfl (q_assign (v := tSlc.enc (r6.1)) rfl rfl) ?_
    refine ro_val (d := (some 6)) rfl (.free rfl) rfl (q_assign (v := .int .i64 (r6.2)) rfl rfl) ?_
    refine ro_nil ?_
    refine wp_seq ?_
    refine wp_text [0, 1, 2, 3, 4, 5, 6, 7] rfl ?_
    refine ro_val (d := (some 28)) rfl (.free rfl) rfl (q_move (v := tSlc.enc (b_2)) rfl rfl) ?_
    refine ro_val (d := (some 29)) rfl (.free rfl) rfl (q_move (v := tSlc.enc (a_1)) rfl rfl) ?_
    refine ro_wp rfl (.free rfl) (wp_cl (d := (some 30)) rfl (q_call (k := 17) (l := [tSlc.enc (b_2), tSlc.enc (a_1)]) rfl ent17 rfl) h ?_)
    intro r8 w7 h
    refine ro_val (d := (some 27)) rfl (.free rfl) rfl (q_move (v := (tTup2 tSlc (tInt .i64)).enc (r8)) rfl rfl) ?_
    refine ro_val (d := (some 31)) rfl (.free rfl) rfl (q_extract (vs := #[tSlc.enc (r8.1), .int .i64 (r8.2)]) (v := tSlc.enc (r8.1)) rfl rfl rfl) ?_
    refine ro_val (d := (some 32)) rfl (.free rfl) rfl (q_extract (vs := #[tSlc.enc (r8.1), .int .i64 (r8.2)]) (v := .int .i64 (r8.2)) rfl rfl rfl) ?_
    refine ro_val (d := (some 7)) rfl (.free rfl) rfl (q_assign (v := tSlc.enc (r8.1)) rfl rfl) ?_
    refine ro_val (d := (some 8)) rfl (.free rfl) rfl (q_assign (v := .int .i64 (r8.2)) rfl rfl) ?_
    refine ro_nil ?_
    refine wp_seq ?_
    refine wp_text [0, 1, 2, 3, 4, 5, 6, 7] rfl ?_
    refine ro_val (d := (some 34)) rfl (.free rfl) rfl (q_move (v := tSlc.enc (b_2)) rfl rfl) ?_
    refine ro_val (d := (some 35)) rfl (.free rfl) rfl (q_move (v := tSlc.enc (b_2)) rfl rfl) ?_
    refine ro_wp rfl (.free rfl) (wp_cl (d := (some 36)) rfl (q_call (k := 17) (l := [tSlc.enc (b_2), tSlc.enc (b_2)]) rfl ent17 rfl) h ?_)
    intro r10 w9 h
    refine ro_val (d := (some 33)) rfl (.free rfl) rfl (q_move (v := (tTup2 tSlc (tInt .i64)).enc (r10)) rfl rfl) ?_
    refine ro_val (d := (some 37)) rfl (.free rfl) rfl (q_extract (vs := #[tSlc.enc (r10.1), .int .i64 (r10.2)]) (v := tSlc.enc (r10.1)) rfl rfl rfl) ?_
    refine ro_val (d := (some 38)) rfl (.free rfl) rfl (q_extract (vs := #[tSlc.enc (r10.1), .int .i64 (r10.2)]) (v := .int .i64 (r10.2)) rfl rfl rfl) ?_
    refine ro_val (d := (some 9)) rfl (.free rfl) rfl (q_assign (v := tSlc.enc (r10.1)) rfl rfl) ?_
    refine ro_val (d := (some 10)) rfl (.free rfl) rfl (q_assign (v := .int .i64 (r10.2)) rfl rfl) ?_
    refine ro_nil ?_
    refine wp_seq ?_
    refine wp_seq ?_
    refine wp_text [0, 1, 2, 3, 4, 5, 6] rfl ?_
    refine ro_wp rfl (.free rfl) (wp_cl (d := (some 39)) rfl (q_call (k := 10) (l := []) rfl ent10 rfl) h ?_)
    intro r12 w11 h
    refine ro_val (d := (some 40)) rfl (.free rfl) rfl (q_not (b := r12) rfl rfl) ?_
    refine ro_val (d := (some 41)) rfl (.free rfl) rfl (q_move (v := .bool ((!r12))) rfl rfl) ?_
    refine ro_gval (g := (!(!r12))) (d := (some 42)) rfl (.no 2 41 true (!r12) rfl rfl rfl rfl) rfl (fun hg => q_move (v := .int .i64 (r6.2)) rfl rfl) ?_
    refine ro_gval (g := (!(!r12))) (d := (some 43)) rfl (.no 2 41 true (!r12) rfl rfl rfl rfl) rfl (fun hg => q_move (v := .int .i64 (r8.2)) rfl rfl) ?_
    refine ro_gval (g := (!(!r12))) (d := (some 44)) rfl (.no 2 41 true (!r12) rfl rfl rfl rfl) rfl (fun hg => q_neq (a := r6.2) (b := r8.2) rfl (gvb_yes hg) (gvb_yes hg)) ?_
    refine ro_val (d := (some 45)) rfl (.free rfl) rfl (q_pickGF (a := (!r12)) (c := (r6.2 != r8.2)) rfl rfl rfl rfl) ?_
    refine ro_nil ?_
    refine wp_if (b := ((!r12) || (r6.2 != r8.2))) rfl h (fun hb37 h => ?_) (fun hb37 h => ?_)
    · refine wp_seq ?_
      refine wp_text [0] rfl ?_
      refine ro_val (d := (some 4)) rfl (.free rfl) rfl (q_assign (v := .bool (false)) rfl rfl) ?_
      refine ro_nil ?_
      refine wp_ret ?_
      exact ret_ok rfl (.cons (.tmp (v := .bool (false)) rfl) .nil) ⟨false, rfl, h⟩
    · refine wp_skip ?_
      refine wp_seq ?_
      refine wp_seq ?_
      refine wp_text [0, 1] rfl ?_
      refine ro_val (d := (some 46)) rfl (.free rfl) rfl (q_move (v := .int .i64 (r6.2)) rfl rfl) ?_
      refine ro_val (d := (some 47)) rfl (.free rfl) rfl (q_neq (a := r6.2) (b := (0 : Int)) rfl rfl rfl) ?_
      refine ro_nil ?_
      refine wp_if (b := (r6.2 != (0 : Int))) rfl h (fun hb36 h => ?_) (fun hb36 h => ?_)
      · refine wp_seq ?_
        refine wp_text [0, 1, 2, 3, 4, 5, 6, 7, 8] rfl ?_
        refine ro_val (d := (some 48)) rfl (.free rfl) rfl (q_move (v := tSlc.enc (r6.1)) rfl rfl) ?_
        refine ro_val (d := (some 49)) rfl (.free rfl) rfl (q_len (s := r6.1) rfl Try.underlying31 rfl) ?_
        refine ro_val (d := (some 50)) rfl (.free rfl) rfl (q_eql (a := (r6.1.len : Int)) (b := (0 : Int)) rfl rfl rfl) ?_
        refine ro_val (d := (some 51)) rfl (.free rfl) rfl (q_move (v := .bool (((r6.1.len : Int) == (0 : Int)))) rfl rfl) ?_
        refine ro_gval (g := ((r6.1.len : Int) == (0 : Int))) (d := (some 52)) rfl (.yes 3 51 true ((r6.1.len : Int) == (0 : Int)) rfl rfl rfl rfl) rfl (fun hg => q_move (v := tSlc.enc (r8.1)) rfl rfl) ?_
        refine ro_gval (g := ((r6.1.len : Int) == (0 : Int))) (d := (some 53)) rfl (.yes 3 51 true ((r6.1.len : Int) == (0 : Int)) rfl rfl rfl rfl) rfl (fun hg => q_len (s := r8.1) rfl Try.underlying31 (gvb_yes hg)) ?_
        refine ro_gval (g := ((r6.1.len : Int) == (0 : Int))) (d := (some 54)) rfl (.yes 3 51 true ((r6.1.len : Int) == (0 : Int)) rfl rfl rfl rfl) rfl (fun hg => q_eql (a := (r8.1.len : Int)) (b := (0 : Int)) rfl (gvb_yes hg) rfl) ?_
        refine ro_val (d := (some 55)) rfl (.free rfl) rfl (q_pickGT (a := ((r6.1.len : Int) == (0 : Int))) (b := ((r8.1.len : Int) == (0 : Int))) rfl rfl rfl rfl) ?_
        refine ro_val (d := (some 4)) rfl (.free rfl) rfl (q_assign (v := .bool ((((r6.1.len : Int) == (0 : Int)) && ((r8.1.len : Int) == (0 : Int))))) rfl rfl) ?_
        refine ro_nil ?_
        refine wp_ret ?_
        exact ret_ok rfl (.cons (.tmp (v := .bool ((((r6.1.len : Int) == (0 : Int)) && ((r8.1.len : Int) == (0 : Int))))) rfl) .nil) ⟨(((r6.1.len : Int) == (0 : Int)) && ((r8.1.len : Int) == (0 : Int))), rfl, h⟩
      · refine wp_skip ?_
        refine wp_seq ?_
        refine wp_seq ?_
        refine wp_text [0, 1, 2, 3, 4, 5, 6, 7, 8, 9, 10, 11, 12, 13] rfl ?_
        refine ro_val (d := (some 56)) rfl (.free rfl) rfl (q_move (v := .int .i64 (r10.2)) rfl rfl) ?_
        refine ro_val (d := (some 57)) rfl (.free rfl) rfl (q_neq (a := r10.2) (b := (0 : Int)) rfl rfl rfl) ?_
        refine ro_val (d := (some 58)) rfl (.free rfl) rfl (q_move (v := .bool ((r10.2 != (0 : Int)))) rfl rfl) ?_
        refine ro_gval (g := (!(r10.2 != (0 : Int)))) (d := (some 59)) rfl (.no 2 58 true (r10.2 != (0 : Int)) rfl rfl rfl rfl) rfl (fun hg => q_move (v := tSlc.enc (r10.1)) rfl rfl) ?_
        refine ro_gval (g := (!(r10.2 != (0 : Int)))) (d := (some 60)) rfl (.no 2 58 true (r10.2 != (0 : Int)) rfl rfl rfl rfl) rfl (fun hg => q_len (s := r10.1) rfl Try.underlying31 (gvb_yes hg)) ?_
        refine ro_gval (g := (!(r10.2 != (0 : Int)))) (d := (some 61)) rfl (.no 2 58 true (r10.2 != (0 : Int)) rfl rfl rfl rfl) rfl (fun hg => q_gtr (a := (r10.1.len : Int)) (b := (0 : Int)) rfl (gvb_yes hg) rfl) ?_
        refine ro_val (d := (some 62)) rfl (.free rfl) rfl (q_pickGF (a := (r10.2 != (0 : Int))) (c := (decide ((r10.1.len : Int) > (0 : Int)))) rfl rfl rfl rfl) ?_
        refine ro_val (d := (some 63)) rfl (.free rfl) rfl (q_move (v := .bool (((r10.2 != (0 : Int)) || (decide ((r10.1.len : Int) > (0 : Int)))))) rfl rfl) ?_
        refine ro_gval (g := (!((r10.2 != (0 : Int)) || (decide ((r10.1.len : Int) > (0 : Int)))))) (d := (some 64)) rfl (.no 7 63 true ((r10.2 != (0 : Int)) || (decide ((r10.1.len : Int) > (0 : Int)))) rfl rfl rfl rfl) rfl (fun hg => q_move (v := tSlc.enc (r8.1)) rfl rfl) ?_
        refine ro_gval (g := (!((r10.2 != (0 : Int)) || (decide ((r10.1.len : Int) > (0 : Int)))))) (d := (some 65)) rfl (.no 7 63 true ((r10.2 != (0 : Int)) || (decide ((r10.1.len : Int) > (0 : Int)))) rfl rfl rfl rfl) rfl (fun hg => q_len (s := r8.1) rfl Try.underlying31 (gvb_yes hg)) ?_
        refine ro_gval (g := (!((r10.2 != (0 : Int)) || (decide ((r10.1.len : Int) > (0 : Int)))))) (d := (some 66)) rfl (.no 7 63 true ((r10.2 != (0 : Int)) || (decide ((r10.1.len : Int) > (0 : Int)))) rfl rfl rfl rfl) rfl (fun hg => q_move (v := tSlc.enc (r6.1)) rfl rfl) ?_
        refine ro_gval (g := (!((r10.2 != (0 : Int)) || (decide ((r10.1.len : Int) > (0 : Int)))))) (d := (some 67)) rfl (.no 7 63 true ((r10.2 != (0 : Int)) || (decide ((r10.1.len : Int) > (0 : Int)))) rfl rfl rfl rfl) rfl (fun hg => q_len (s := r6.1) rfl Try.underlying31 (gvb_yes hg)) ?_
        refine ro_gval (g := (!((r10.2 != (0 : Int)) || (decide ((r10.1.len : Int) > (0 : Int)))))) (d := (some 68)) rfl (.no 7 63 true ((r10.2 != (0 : Int)) || (decide ((r10.1.len : Int) > (0 : Int)))) rfl rfl rfl rfl) rfl (fun hg => q_neq (a := (r8.1.len : Int)) (b := (r6.1.len : Int)) rfl (gvb_yes hg) (gvb_yes hg)) ?_
        refine ro_val (d := (some 69)) rfl (.free rfl) rfl (q_pickGF (a := ((r10.2 != (0 : Int)) || (decide ((r10.1.len : Int) > (0 : Int))))) (c := ((r8.1.len : Int) != (r6.1.len : Int))) rfl rfl rfl rfl) ?_
        refine ro_nil ?_
        refine wp_if (b := (((r10.2 != (0 : Int)) || (decide ((r10.1.len : Int) > (0 : Int)))) || ((r8.1.len : Int) != (r6.1.len : Int)))) rfl h (fun hb35 h => ?_) (fun hb35 h => ?_)
        · refine wp_seq ?_
          refine wp_text [0] rfl ?_
          refine ro_val (d := (some 4)) rfl (.free rfl) rfl (q_assign (v := .bool (false)) rfl rfl) ?_
          refine ro_nil ?_
          refine wp_ret ?_
          exact ret_ok rfl (.cons (.tmp (v := .bool (false)) rfl) .nil) ⟨false, rfl, h⟩
        · refine wp_skip ?_
          refine wp_seq ?_
          refine wp_seq ?_
          refine wp_text [0] rfl ?_
          refine ro_val (d := (some 11)) rfl (.free rfl) rfl (q_assign (v := .int .i64 ((0 : Int))) rfl rfl) ?_
          refine ro_nil ?_
          refine wp_block ?_
          refine loop_at (σ := Int) (fr := fun g (s : Int) => upd (upd (upd (upd (upd (g) 0 (tSlc.enc (a_1))) 1 (tSlc.enc (b_2))) 5 (tSlc.enc (r6.1))) 7 (tSlc.enc (r8.1))) 11 (.int .i64 (s))) (s0 := ((0 : Int))) (upd_step (upd_step (upd_step (upd_step (upd_step rfl rfl) rfl) rfl) rfl) rfl) h ?_
          rintro i_13 g w14 K15 h
          unfold F7_l1 at h
          refine wp_seq ?_
          refine wp_seq ?_
          refine wp_text [0, 1, 2, 3] rfl ?_
          refine ro_val (d := (some 70)) rfl (.free rfl) rfl (q_move (v := .int .i64 (i_13)) rfl rfl) ?_
          refine ro_val (d := (some 71)) rfl (.free rfl) rfl (q_move (v := tSlc.enc (r6.1)) rfl rfl) ?_
          refine ro_val (d := (some 72)) rfl (.free rfl) rfl (q_len (s := r6.1) rfl Try.underlying31 rfl) ?_
          refine ro_val (d := (some 73)) rfl (.free rfl) rfl (q_lss (a := i_13) (b := (r6.1.len : Int)) rfl rfl rfl) ?_
          refine ro_nil ?_
          refine wp_if (b := (decide (i_13 < (r6.1.len : Int)))) rfl h (fun hb34 h => ?_) (fun hb34 h => ?_)
          · refine wp_skip ?_
            refine wp_seq ?_
            refine wp_block ?_
            refine wp_seq ?_
            obtain ⟨w16, hw16, h⟩ := dr_open h
            refine wp_drawn 33 mixed rfl (by kernel_rfl) (by intro c a d v w h; cases d <;> exact h) hw16 (fun hD => ?_)
            refine rd_pure (i := 0) (d := (some 76)) hD (by kernel_rfl) (by kernel_rfl) rfl (.free rfl) rfl (fun _ => q_move (v := tSlc.enc (r6.1)) rfl rfl) ?_
            refine rd_pure (i := 1) (d := (some 77)) hD (by kernel_rfl) (by kernel_rfl) rfl (.free rfl) rfl (fun _ => q_move (v := .int .i64 (i_13)) rfl rfl) ?_
            obtain ⟨a17, ha17, h⟩ := h
            refine rd_pure (i := 2) (d := (some 78)) hD (by kernel_rfl) (by kernel_rfl) rfl (.free rfl) rfl (fun _ => q_indexAddr (s := r6.1) (i := i_13) rfl Try.underlying31 ok37 rfl rfl ha17) ?_
            refine rd_pure (i := 3) (d := (some 79)) hD (by kernel_rfl) (by kernel_rfl) rfl (.free rfl) rfl (fun _ => q_fieldAddr (a := a17) (off := 1) rfl Try.underlying37 rfl rfl ok2 (by decide) rfl) ?_
            obtain ⟨x18, hx18, h⟩ := h
            refine rd_read (i := 4) (d := (some 80)) (fun W => (RdAt (tInt .i64) (a17.add 1) W) x18) hD (by kernel_rfl) (by kernel_rfl) rfl (.free rfl) rfl (fun W hr => q_load (T := (tInt .i64)) (u := x18) (a := (a17.add 1)) rfl ok2 rfl hr) hx18 ?_
            refine rd_pure (i := 5) (d := (some 81)) hD (by kernel_rfl) (by kernel_rfl) rfl (.free rfl) rfl (fun _ => q_eql (a := x18) (b := (0 : Int)) rfl rfl rfl) ?_
            refine rd_pure (i := 6) (d := (some 82)) hD (by kernel_rfl) (by kernel_rfl) rfl (.free rfl) rfl (fun _ => q_move (v := .bool ((x18 == (0 : Int)))) rfl rfl) ?_
            refine rd_gpure (i := 7) (g := (!(x18 == (0 : Int)))) (d := (some 83)) hD (by kernel_rfl) (by kernel_rfl) rfl (.no 6 82 true (x18 == (0 : Int)) rfl rfl rfl rfl) rfl (fun hg _ => q_move (v := tSlc.enc (r8.1)) rfl rfl) ?_
            refine rd_gpure (i := 8) (g := (!(x18 == (0 : Int)))) (d := (some 84)) hD (by kernel_rfl) (by kernel_rfl) rfl (.no 6 82 true (x18 == (0 : Int)) rfl rfl rfl rfl) rfl (fun hg _ => q_move (v := .int .i64 (i_13)) rfl rfl) ?_
            obtain ⟨a19, ha19, h⟩ := h
            refine rd_gpure (i := 9) (g := (!(x18 == (0 : Int)))) (d := (some 85)) hD (by kernel_rfl) (by kernel_rfl) rfl (.no 6 82 true (x18 == (0 : Int)) rfl rfl rfl rfl) rfl (fun hg _ => q_indexAddr (s := r8.1) (i := i_13) rfl Try.underlying31 ok37 (gvb_yes hg) (gvb_yes hg) (ha19 hg)) ?_
            refine rd_gpure (i := 10) (g := (!(x18 == (0 : Int)))) (d := (some 86)) hD (by kernel_rfl) (by kernel_rfl) rfl (.no 6 82 true (x18 == (0 : Int)) rfl rfl rfl rfl) rfl (fun hg _ => q_fieldAddr (a := a19) (off := 1) rfl Try.underlying37 rfl rfl ok2 (by decide) (gvb_yes hg)) ?_
            refine rd_gpure (i := 12) (g := (!(x18 == (0 : Int)))) (d := (some 88)) hD (by kernel_rfl) (by kernel_rfl) rfl (.no 6 82 true (x18 == (0 : Int)) rfl rfl rfl rfl) rfl (fun hg _ => q_move (v := tSlc.enc (r6.1)) rfl rfl) ?_
            refine rd_gpure (i := 13) (g := (!(x18 == (0 : Int)))) (d := (some 89)) hD (by kernel_rfl) (by kernel_rfl) rfl (.no 6 82 true (x18 == (0 : Int)) rfl rfl rfl rfl) rfl (fun hg _ => q_move (v := .int .i64 (i_13)) rfl rfl) ?_
            obtain ⟨a20, ha20, h⟩ := h
            refine rd_gpure (i := 14) (g := (!(x18 == (0 : Int)))) (d := (some 90)) hD (by kernel_rfl) (by kernel_rfl) rfl (.no 6 82 true (x18 == (0 : Int)) rfl rfl rfl rfl) rfl (fun hg _ => q_indexAddr (s := r6.1) (i := i_13) rfl Try.underlying31 ok37 (gvb_yes hg) (gvb_yes hg) (ha20 hg)) ?_
            refine rd_gpure (i := 15) (g := (!(x18 == (0 : Int)))) (d := (some 91)) hD (by kernel_rfl) (by kernel_rfl) rfl (.no 6 82 true (x18 == (0 : Int)) rfl rfl rfl rfl) rfl (fun hg _ => q_fieldAddr (a := a20) (off := 1) rfl Try.underlying37 rfl rfl ok2 (by decide) (gvb_yes hg)) ?_
            obtain ⟨x21, hx21, h⟩ := h
            refine rd_gread (i := 11) (g := (!(x18 == (0 : Int)))) (d := (some 87)) (fun W => (RdAt (tInt .i64) (a19.add 1) W) x21) hD (by kernel_rfl) (by kernel_rfl) rfl (.no 6 82 true (x18 == (0 : Int)) rfl rfl rfl rfl) rfl (fun hg W hr => q_load (T := (tInt .i64)) (u := x21) (a := (a19.add 1)) rfl ok2 (gvb_yes hg) hr) hx21 ?_
            obtain ⟨x22, hx22, h⟩ := h
            refine rd_gread (i := 16) (g := (!(x18 == (0 : Int)))) (d := (some 92)) (fun W => (RdAt (tInt .i64) (a20.add 1) W) x22) hD (by kernel_rfl) (by kernel_rfl) rfl (.no 6 82 true (x18 == (0 : Int)) rfl rfl rfl rfl) rfl (fun hg W hr => q_load (T := (tInt .i64)) (u := x22) (a := (a20.add 1)) rfl ok2 (gvb_yes hg) hr) hx22 ?_
            refine rd_gpure (i := 17) (g := (!(x18 == (0 : Int)))) (d := (some 93)) hD (by kernel_rfl) (by kernel_rfl) rfl (.no 6 82 true (x18 == (0 : Int)) rfl rfl rfl rfl) rfl (fun hg _ => q_neg (a := x22) rfl (gvb_yes hg)) ?_
            refine rd_gpure (i := 18) (g := (!(x18 == (0 : Int)))) (d := (some 94)) hD (by kernel_rfl) (by kernel_rfl) rfl (.no 6 82 true (x18 == (0 : Int)) rfl rfl rfl rfl) rfl (fun hg _ => q_neq (a := x21) (b := (IntKind.i64.wrap (0 - x22))) rfl (gvb_yes hg) (gvb_yes hg)) ?_
            refine rd_pure (i := 19) (d := (some 95)) hD (by kernel_rfl) (by kernel_rfl) rfl (.free rfl) rfl (fun _ => q_pickGF (a := (x18 == (0 : Int))) (c := (x21 != (IntKind.i64.wrap (0 - x22)))) rfl rfl rfl rfl) ?_
            refine rd_pure (i := 20) (d := (some 96)) hD (by kernel_rfl) (by kernel_rfl) rfl (.free rfl) rfl (fun _ => q_move (v := .bool (((x18 == (0 : Int)) || (x21 != (IntKind.i64.wrap (0 - x22)))))) rfl rfl) ?_
            refine rd_gpure (i := 21) (g := (!((x18 == (0 : Int)) || (x21 != (IntKind.i64.wrap (0 - x22)))))) (d := (some 97)) hD (by kernel_rfl) (by kernel_rfl) rfl (.no 20 96 true ((x18 == (0 : Int)) || (x21 != (IntKind.i64.wrap (0 - x22)))) rfl rfl rfl rfl) rfl (fun hg _ => q_move (v := tSlc.enc (r8.1)) rfl rfl) ?_
            refine rd_gpure (i := 22) (g := (!((x18 == (0 : Int)) || (x21 != (IntKind.i64.wrap (0 - x22)))))) (d := (some 98)) hD (by kernel_rfl) (by kernel_rfl) rfl (.no 20 96 true ((x18 == (0 : Int)) || (x21 != (IntKind.i64.wrap (0 - x22)))) rfl rfl rfl rfl) rfl (fun hg _ => q_move (v := .int .i64 (i_13)) rfl rfl) ?_
            obtain ⟨a23, ha23, h⟩ := h
            refine rd_gpure (i := 23) (g := (!((x18 == (0 : Int)) || (x21 != (IntKind.i64.wrap (0 - x22)))))) (d := (some 99)) hD (by kernel_rfl) (by kernel_rfl) rfl (.no 20 96 true ((x18 == (0 : Int)) || (x21 != (IntKind.i64.wrap (0 - x22)))) rfl rfl rfl rfl) rfl (fun hg _ => q_indexAddr (s := r8.1) (i := i_13) rfl Try.underlying31 ok37 (gvb_yes hg) (gvb_yes hg) (ha23 hg)) ?_
            refine rd_gpure (i := 24) (g := (!((x18 == (0 : Int)) || (x21 != (IntKind.i64.wrap (0 - x22)))))) (d := (some 100)) hD (by kernel_rfl) (by kernel_rfl) rfl (.no 20 96 true ((x18 == (0 : Int)) || (x21 != (IntKind.i64.wrap (0 - x22)))) rfl rfl rfl rfl) rfl (fun hg _ => q_fieldAddr (a := a23) (off := 0) rfl Try.underlying37 rfl rfl ok3 (by decide) (gvb_yes hg)) ?_
            refine rd_gpure (i := 26) (g := (!((x18 == (0 : Int)) || (x21 != (IntKind.i64.wrap (0 - x22)))))) (d := (some 102)) hD (by kernel_rfl) (by kernel_rfl) rfl (.no 20 96 true ((x18 == (0 : Int)) || (x21 != (IntKind.i64.wrap (0 - x22)))) rfl rfl rfl rfl) rfl (fun hg _ => q_move (v := tSlc.enc (r6.1)) rfl rfl) ?_
            refine rd_gpure (i := 27) (g := (!((x18 == (0 : Int)) || (x21 != (IntKind.i64.wrap (0 - x22)))))) (d := (some 103)) hD (by kernel_rfl) (by kernel_rfl) rfl (.no 20 96 true ((x18 == (0 : Int)) || (x21 != (IntKind.i64.wrap (0 - x22)))) rfl rfl rfl rfl) rfl (fun hg _ => q_move (v := .int .i64 (i_13)) rfl rfl) ?_
            obtain ⟨a24, ha24, h⟩ := h
            refine rd_gpure (i := 28) (g := (!((x18 == (0 : Int)) || (x21 != (IntKind.i64.wrap (0 - x22)))))) (d := (some 104)) hD (by kernel_rfl) (by kernel_rfl) rfl (.no 20 96 true ((x18 == (0 : Int)) || (x21 != (IntKind.i64.wrap (0 - x22)))) rfl rfl rfl rfl) rfl (fun hg _ => q_indexAddr (s := r6.1) (i := i_13) rfl Try.underlying31 ok37 (gvb_yes hg) (gvb_yes hg) (ha24 hg)) ?_
            refine rd_gpure (i := 29) (g := (!((x18 == (0 : Int)) || (x21 != (IntKind.i64.wrap (0 - x22)))))) (d := (some 105)) hD (by kernel_rfl) (by kernel_rfl) rfl (.no 20 96 true ((x18 == (0 : Int)) || (x21 != (IntKind.i64.wrap (0 - x22)))) rfl rfl rfl rfl) rfl (fun hg _ => q_fieldAddr (a := a24) (off := 0) rfl Try.underlying37 rfl rfl ok3 (by decide) (gvb_yes hg)) ?_
            obtain ⟨x25, hx25, h⟩ := h
            refine rd_gread (i := 25) (g := (!((x18 == (0 : Int)) || (x21 != (IntKind.i64.wrap (0 - x22)))))) (d := (some 101)) (fun W => (RdAt (tInt .i64) (a23.add 0) W) x25) hD (by kernel_rfl) (by kernel_rfl) rfl (.no 20 96 true ((x18 == (0 : Int)) || (x21 != (IntKind.i64.wrap (0 - x22)))) rfl rfl rfl rfl) rfl (fun hg W hr => q_load (T := (tInt .i64)) (u := x25) (a := (a23.add 0)) rfl ok3 (gvb_yes hg) hr) hx25 ?_
            obtain ⟨x26, hx26, h⟩ := h
            refine rd_gread (i := 30) (g := (!((x18 == (0 : Int)) || (x21 != (IntKind.i64.wrap (0 - x22)))))) (d := (some 106)) (fun W => (RdAt (tInt .i64) (a24.add 0) W) x26) hD (by kernel_rfl) (by kernel_rfl) rfl (.no 20 96 true ((x18 == (0 : Int)) || (x21 != (IntKind.i64.wrap (0 - x22)))) rfl rfl rfl rfl) rfl (fun hg W hr => q_load (T := (tInt .i64)) (u := x26) (a := (a24.add 0)) rfl ok3 (gvb_yes hg) hr) hx26 ?_
            refine rd_gpure (i := 31) (g := (!((x18 == (0 : Int)) || (x21 != (IntKind.i64.wrap (0 - x22)))))) (d := (some 107)) hD (by kernel_rfl) (by kernel_rfl) rfl (.no 20 96 true ((x18 == (0 : Int)) || (x21 != (IntKind.i64.wrap (0 - x22)))) rfl rfl rfl rfl) rfl (fun hg _ => q_neq (a := x25) (b := x26) rfl (gvb_yes hg) (gvb_yes hg)) ?_
            refine rd_pure (i := 32) (d := (some 108)) hD (by kernel_rfl) (by kernel_rfl) rfl (.free rfl) rfl (fun _ => q_pickGF (a := ((x18 == (0 : Int)) || (x21 != (IntKind.i64.wrap (0 - x22))))) (c := (x25 != x26)) rfl rfl rfl rfl) ?_
            refine rd_nil (by kernel_rfl) ?_
            refine wp_if (b := (((x18 == (0 : Int)) || (x21 != (IntKind.i64.wrap (0 - x22)))) || (x25 != x26))) rfl h (fun hb27 h => ?_) (fun hb27 h => ?_)
            · refine wp_seq ?_
              refine wp_text [0] rfl ?_
              refine ro_val (d := (some 4)) rfl (.free rfl) rfl (q_assign (v := .bool (false)) rfl rfl) ?_
              refine ro_nil ?_
              refine wp_ret ?_
              exact ret_ok rfl (.cons (.tmp (v := .bool (false)) rfl) .nil) ⟨false, rfl, h⟩
            · refine wp_skip ?_
              refine wp_text [0, 1, 2] rfl ?_
              refine ro_val (d := (some 74)) rfl (.free rfl) rfl (q_move (v := .int .i64 (i_13)) rfl rfl) ?_
              refine ro_val (d := (some 75)) rfl (.free rfl) rfl (q_add (a := i_13) (b := (1 : Int)) rfl rfl rfl) ?_
              refine ro_val (d := (some 11)) rfl (.free rfl) rfl (q_assign (v := .int .i64 ((IntKind.i64.wrap (i_13 + (1 : Int))))) rfl rfl) ?_
              refine ro_nil ?_
              exact ⟨((IntKind.i64.wrap (i_13 + (1 : Int)))), _, arr (upd_step (upd_step (upd_step (upd_step (upd_step rfl rfl) rfl) rfl) rfl) rfl), h⟩
          · refine wp_exit ?_
            refine wp_seq ?_
            refine wp_text [0, 1, 2, 3, 4, 5, 6] rfl ?_
            refine ro_val (d := (some 109)) rfl (.free rfl) rfl (q_move (v := tSlc.enc (a_1)) rfl rfl) ?_
            refine ro_val (d := (some 110)) rfl (.free rfl) rfl (q_move (v := tSlc.enc (r6.1)) rfl rfl) ?_
            refine ro_wp rfl (.free rfl) (wp_cl (d := (some 111)) rfl (q_call (k := 19) (l := [tSlc.enc (a_1), tSlc.enc (r6.1)]) rfl ent19 rfl) h ?_)
            intro r29 w28 h
            refine ro_val (d := (some 112)) rfl (.free rfl) rfl (q_move (v := tSlc.enc (b_2)) rfl rfl) ?_
            refine ro_wp rfl (.free rfl) (wp_cl (d := (some 113)) rfl (q_call (k := 19) (l := [tSlc.enc (b_2), tSlc.enc ((⟨none, 0, 0⟩ : Slc))]) rfl ent19 rfl) h ?_)
            intro r31 w30 h
            refine ro_wp rfl (.free rfl) (wp_cl (d := (some 114)) rfl (q_call (k := 16) (l := [tSlc.enc (r29), tSlc.enc (r31)]) rfl ent16 rfl) h ?_)
            intro r33 w32 h
            refine ro_val (d := (some 4)) rfl (.free rfl) rfl (q_assign (v := .bool (r33)) rfl rfl) ?_
            refine ro_nil ?_
            refine wp_ret ?_
            exact ret_ok rfl (.cons (.tmp (v := .bool (r33)) rfl) .nil) ⟨r33, rfl, h⟩

-- moiety/moietylaw17.AuditSteps
def F8_j1 (t_16 : Bool) (w17 : World) (R : Bool → World → Prop) : Prop :=
  R t_16 w17
def F8 (a_1 : Slc) (b_2 : Slc) (c_3 : Slc) (w : World) (R : Bool → World → Prop) : Prop :=
  if (((decide ((a_1.len : Int) > (100 : Int))) || (decide ((b_2.len : Int) > (100 : Int)))) || (decide ((c_3.len : Int) > (100 : Int)))) = true then (
    cl Try.prog 10 [] tBool w fun r5 w4 =>
    R r5 w4
  ) else (
    cl Try.prog 17 [tSlc.enc (a_1), tSlc.enc (b_2)] (tTup2 tSlc (tInt .i64)) w fun r7 w6 =>
    cl Try.prog 17 [tSlc.enc (b_2), tSlc.enc (c_3)] (tTup2 tSlc (tInt .i64)) w6 fun r9 w8 =>
    cl Try.prog 17 [tSlc.enc (a_1), tSlc.enc (c_3)] (tTup2 tSlc (tInt .i64)) w8 fun r11 w10 =>
    cl Try.prog 10 [] tBool w10 fun r13 w12 =>
    if (((!r13) || (r7.2 != (0 : Int))) || (r9.2 != (0 : Int))) = true then (
      cl Try.prog 10 [] tBool w12 fun r15 w14 =>
      R r15 w14
    ) else (
      if (r11.2 == (0 : Int)) = true then (
        cl Try.prog 19 [tSlc.enc (r7.1), tSlc.enc (r9.1)] tSlc w12 fun r20 w19 =>
        cl Try.prog 16 [tSlc.enc (r20), tSlc.enc (r11.1)] tBool w19 fun r22 w21 =>
        F8_j1 r22 w21 R
      ) else (
        F8_j1 false w12 R
      )
    )
  )
theorem F8_ok {a_1 : Slc} {b_2 : Slc} {c_3 : Slc} {w : World} {R : Bool → World → Prop} (h : F8 a_1 b_2 c_3 w R) : cl Try.prog 8 [tSlc.enc (a_1), tSlc.enc (b_2), tSlc.enc (c_3)] tBool w R := by
  unfold F8 at h
  refine calls_start 65 Try.func8 rfl rfl (Nat.le_of_ble_eq_true rfl) ?_
  refine wp_seq ?_
  refine wp_text [0] rfl ?_
  refine ro_val (d := (some 6)) rfl (.free rfl) rfl (q_assign (v := .bool (false)) rfl rfl) ?_
  refine ro_nil ?_
  refine wp_seq ?_
  refine wp_seq ?_
  refine wp_text [0, 1, 2, 3, 4, 5, 6, 7, 8, 9, 10, 11, 12] rfl ?_
  refine ro_val (d := (some 13)) rfl (.free rfl) rfl (q_move (v := tSlc.enc (a_1)) rfl rfl) ?_
  refine ro_val (d := (some 14)) rfl (.free rfl) rfl (q_len (s := a_1) rfl Try.underlying31 rfl) ?_
  refine ro_val (d := (some 15)) rfl (.free rfl) rfl (q_gtr (a := (a_1.len : Int)) (b := (100 : Int)) rfl rfl rfl) ?_
  refine ro_val (d := (some 16)) rfl (.free rfl) rfl (q_move (v := .bool ((decide ((a_1.len : Int) > (100 : Int))))) rfl rfl) ?_
  refine ro_gval (g := (!(decide ((a_1.len : Int) > (100 : Int))))) (d := (some 17)) rfl (.no 3 16 true (decide ((a_1.len : Int) > (100 : Int))) rfl rfl rfl rfl) rfl (fun hg => q_move (v := tSlc.enc (b_2)) rfl rfl) ?_
  refine ro_gval (g := (!(decide ((a_1.len : Int) > (100 : Int))))) (d := (some 18)) rfl (.no 3 16 true (decide ((a_1.len : Int) > (100 : Int))) rfl rfl rfl rfl) rfl (fun hg => q_len (s := b_2) rfl Try.underlying31 (gvb_yes hg)) ?_
  refine ro_gval (g := (!(decide ((a_1.len : Int) > (100 : Int))))) (d := (some 19)) rfl (.no 3 16 true (decide ((a_1.len : Int) > (100 : Int))) rfl rfl rfl rfl) rfl (fun hg => q_gtr (a := (b_2.len : Int)) (b := (100 : Int)) rfl (gvb_yes hg) rfl) ?_
  refine ro_val (d := (some 20)) rfl (.free rfl) rfl (q_pickGF (a := (decide ((a_1.len : Int) > (100 : Int)))) (c := (decide ((b_2.len : Int) > (100 : Int)))) rfl rfl rfl rfl) ?_
  refine ro_val (d := (some 21)) rfl (.free rfl) rfl (q_move (v := .bool (((decide ((a_1.len : Int) > (100 : Int))) || (decide ((b_2.len : Int) > (100 : Int)))))) rfl rfl) ?_
  refine ro_gval (g := (!((decide ((a_1.len : Int) > (100 : Int))) || (decide ((b_2.len : Int) > (100 : Int)))))) (d := (some 22)) rfl (.no 8 21 true ((decide ((a_1.len : Int) > (100 : Int))) || (decide ((b_2.len : Int) > (100 : Int)))) rfl rfl rfl rfl) rfl (fun hg => q_move (v := tSlc.enc (c_3)) rfl rfl) ?_
  refine ro_gval (g := (!((decide ((a_1.len : Int) > (100 : Int))) || (decide ((b_2.len : Int) > (100 : Int)))))) (d := (some 23)) rfl (.no 8 21 true ((decide ((a_1.len : Int) > (100 : Int))) || (decide ((b_2.len : Int) > (100 : Int)))) rfl rfl rfl rfl) rfl (fun hg => q_len (s := c_3) rfl Try.underlying31 (gvb_yes hg)) ?_
  refine ro_gval (g := (!((decide ((a_1.len : Int) > (100 : Int))) || (decide ((b_2.len : Int) > (100 : Int)))))) (d := (some 24)) rfl (.no 8 21 true ((decide ((a_1.len : Int) > (100 : Int))) || (decide ((b_2.len : Int) > (100 : Int)))) rfl rfl rfl rfl) rfl (fun hg => q_gtr (a := (c_3.len : Int)) (b := (100 : Int)) rfl (gvb_yes hg) rfl) ?_
  refine ro_val (d := (some 25)) rfl (.free rfl) rfl (q_pickGF (a := ((decide ((a_1.len : Int) > (100 : Int))) || (decide ((b_2.len : Int) > (100 : Int))))) (c := (decide ((c_3.len : Int) > (100 : Int)))) rfl rfl rfl rfl) ?_
  refine ro_nil ?_
  refine wp_if (b := (((decide ((a_1.len : Int) > (100 : Int))) || (decide ((b_2.len : Int) > (100 : Int)))) || (decide ((c_3.len : Int) > (100 : Int))))) rfl h (fun hb24 h => ?_) (fun hb24 h => ?_)
  · refine wp_seq ?_
    refine wp_text [0, 1] rfl ?_
    refine ro_wp rfl (.free rfl) (wp_cl (d := (some 26)) rfl (q_call (k := 10) (l := []) rfl ent10 rfl) h ?_)
    intro r5 w4 h
    refine ro_val (d := (some 6)) rfl (.free rfl) rfl (q_assign (v := .bool (r5)) rfl rfl) ?_
    refine ro_nil ?_
    refine wp_ret ?_
    exact ret_ok rfl (.cons (.tmp (v := .bool (r5)) rfl) .nil) ⟨r5, rfl, h⟩
  · refine wp_skip ?_
    refine wp_seq ?_
    refine wp_text [0, 1, 2, 3, 4, 5, 6, 7] rfl ?_
    refine ro_val (d := (some 28)) rfl (.free rfl) rfl (q_move (v := tSlc.enc (a_1)) rfl rfl) ?_
    refine ro_val (d := (some 29)) rfl (.free rfl) rfl (q_move (v := tSlc.enc (b_2)) rfl rfl) ?_
    refine ro_wp rfl (.free rfl) (wp_cl (d := (some 30)) rfl (q_call (k := 17) (l := [tSlc.enc (a_1), tSlc.enc (b_2)]) rfl ent17 rfl) h ?_)
    intro r7 w6 h
    refine ro_val (d := (some 27)) rfl (.free rfl) rfl (q_move (v := (tTup2 tSlc (tInt .i64)).enc (r7)) rfl rfl) ?_
    refine ro_val (d := (some 31)) rfl (.free rfl) rfl (q_extract (vs := #[tSlc.enc (r7.1), .int .i64 (r7.2)]) (v := tSlc.enc (r7.1)) rfl rfl rfl) ?_
    refine ro_val (d := (some 32)) rfl (.free rfl) rfl (q_extract (vs := #[tSlc.enc (r7.1), .int .i64 (r7.2)]) (v := .int .i64 (r7.2)) rfl rfl rfl) ?_
    refine ro_val (d := (some 7)) rfl (.free rfl) rfl (q_assign (v := tSlc.enc (r7.1)) rfl rfl) ?_
    refine ro_val (d := (some 8)) rfl (.free rfl) rfl (q_assign (v := .int .i64 (r7.2)) rfl rfl) ?_
    refine ro_nil ?_
    refine wp_seq ?_
    refine wp_text [0, 1, 2, 3, 4, 5, 6, 7] rfl ?_
    refine ro_val (d := (some 34)) rfl (.free rfl) rfl (q_move (v := tSlc.enc (b_2)) rfl rfl) ?_
    refine ro_val (d := (some 35)) rfl (.free rfl) rfl (q_move (v := tSlc.enc (c_3)) rfl rfl) ?_
    refine ro_wp rfl (.free rfl) (wp_cl (d := (some 36)) rfl (q_call (k := 17) (l := [tSlc.enc (b_2), tSlc.enc (c_3)]) rfl ent17 rfl) h ?_)
    intro r9 w8 h
    refine ro_val (d := (some 33)) rfl (.free rfl) rfl (q_move (v := (tTup2 tSlc (tInt .i64)).enc (r9)) rfl rfl) ?_
    refine ro_val (d := (some 37)) rfl (.free rfl) rfl (q_extract (vs := #[tSlc.enc (r9.1), .int .i64 (r9.2)]) (v := tSlc.enc (r9.1)) rfl rfl rfl) ?_
    refine ro_val (d := (some 38)) rfl (.free rfl) rfl (q_extract (vs := #[tSlc.enc (r9.1), .int .i64 (r9.2)]) (v := .int .i64 (r9.2)) rfl rfl rfl) ?_
    refine ro_val (d := (some 9)) rfl (.free rfl) rfl (q_assign (v := tSlc.enc (r9.1)) rfl rfl) ?_
    refine ro_val (d := (some 10)) rfl (.free rfl) rfl (q_assign (v := .int .i64 (r9.2)) rfl rfl) ?_
    refine ro_nil ?_
    refine wp_seq ?_
    refine wp_text [0, 1, 2, 3, 4, 5, 6, 7] rfl ?_
    refine ro_val (d := (some 40)) rfl (.free rfl) rfl (q_move (v := tSlc.enc (a_1)) rfl rfl) ?_
    refine ro_val (d := (some 41)) rfl (.free rfl) rfl (q_move (v := tSlc.enc (c_3)) rfl rfl) ?_
    refine ro_wp rfl (.free rfl) (wp_cl (d := (some 42)) rfl (q_call (k := 17) (l := [tSlc.enc (a_1), tSlc.enc (c_3)]) rfl ent17 rfl) h ?_)
    intro r11 w10 h
    refine ro_val (d := (some 39)) rfl (.free rfl) rfl (q_move (v := (tTup2 tSlc (tInt .i64)).enc (r11)) rfl rfl) ?_
    refine ro_val (d := (some 43)) rfl (.free rfl) rfl (q_extract (vs := #[tSlc.enc (r11.1), .int .i64 (r11.2)]) (v := tSlc.enc (r11.1)) rfl rfl rfl) ?_
    refine ro_val (d := (some 44)) rfl (.free rfl) rfl (q_extract (vs := #[tSlc.enc (r11.1), .int .i64 (r11.2)]) (v := .int .i64 (r11.2)) rfl rfl rfl) ?_
    refine ro_val (d := (some 11)) rfl (.free rfl) rfl (q_assign (v := tSlc.enc (r11.1)) rfl rfl) ?_
    refine ro_val (d := (some 12)) rfl (.free rfl) rfl (q_assign (v := .int .i64 (r11.2)) rfl rfl) ?_
    refine ro_nil ?_
    refine wp_seq ?_
    refine wp_seq ?_
    refine wp_text [0, 1, 2, 3, 4, 5, 6, 7, 8, 9] rfl ?_
    refine ro_wp rfl (.free rfl) (wp_cl (d := (some 45)) rfl (q_call (k := 10) (l := []) rfl ent10 rfl) h ?_)
    intro r13 w12 h
    refine ro_val (d := (some 46)) rfl (.free rfl) rfl (q_not (b := r13) rfl rfl) ?_
    refine ro_val (d := (some 47)) rfl (.free rfl) rfl (q_move (v := .bool ((!r13))) rfl rfl) ?_
    refine ro_gval (g := (!(!r13))) (d := (some 48)) rfl (.no 2 47 true (!r13) rfl rfl rfl rfl) rfl (fun hg => q_move (v := .int .i64 (r7.2)) rfl rfl) ?_
    refine ro_gval (g := (!(!r13))) (d := (some 49)) rfl (.no 2 47 true (!r13) rfl rfl rfl rfl) rfl (fun hg => q_neq (a := r7.2) (b := (0 : Int)) rfl (gvb_yes hg) rfl) ?_
    refine ro_val (d := (some 50)) rfl (.free rfl) rfl (q_pickGF (a := (!r13)) (c := (r7.2 != (0 : Int))) rfl rfl rfl rfl) ?_
    refine ro_val (d := (some 51)) rfl (.free rfl) rfl (q_move (v := .bool (((!r13) || (r7.2 != (0 : Int))))) rfl rfl) ?_
    refine ro_gval (g := (!((!r13) || (r7.2 != (0 : Int))))) (d := (some 52)) rfl (.no 6 51 true ((!r13) || (r7.2 != (0 : Int))) rfl rfl rfl rfl) rfl (fun hg => q_move (v := .int .i64 (r9.2)) rfl rfl) ?_
    refine ro_gval (g := (!((!r13) || (r7.2 != (0 : Int))))) (d := (some 53)) rfl (.no 6 51 true ((!r13) || (r7.2 != (0 : Int))) rfl rfl rfl rfl) rfl (fun hg => q_neq (a := r9.2) (b := (0 : Int)) rfl (gvb_yes hg) rfl) ?_
    refine ro_val (d := (some 54)) rfl (.free rfl) rfl (q_pickGF (a := ((!r13) || (r7.2 != (0 : Int)))) (c := (r9.2 != (0 : Int))) rfl rfl rfl rfl) ?_
    refine ro_nil ?_
    refine wp_if (b := (((!r13) || (r7.2 != (0 : Int))) || (r9.2 != (0 : Int)))) rfl h (fun hb23 h => ?_) (fun hb23 h => ?_)
    · refine wp_seq ?_
      refine wp_text [0, 1] rfl ?_
      refine ro_wp rfl (.free rfl) (wp_cl (d := (some 55)) rfl (q_call (k := 10) (l := []) rfl ent10 rfl) h ?_)
      intro r15 w14 h
      refine ro_val (d := (some 6)) rfl (.free rfl) rfl (q_assign (v := .bool (r15)) rfl rfl) ?_
      refine ro_nil ?_
      refine wp_ret ?_
      exact ret_ok rfl (.cons (.tmp (v := .bool (r15)) rfl) .nil) ⟨r15, rfl, h⟩
    · refine wp_skip ?_
      refine wp_seq ?_
      refine wp_text [0, 1, 2, 3, 4, 5, 6, 7, 8, 9] rfl ?_
      refine ro_val (d := (some 56)) rfl (.free rfl) rfl (q_move (v := .int .i64 (r11.2)) rfl rfl) ?_
      refine ro_val (d := (some 57)) rfl (.free rfl) rfl (q_eql (a := r11.2) (b := (0 : Int)) rfl rfl rfl) ?_
      refine ro_val (d := (some 58)) rfl (.free rfl) rfl (q_move (v := .bool ((r11.2 == (0 : Int)))) rfl rfl) ?_
      refine ro_join (σ := Bool) (J := fun (s : Bool) w => F8_j1 s w R) (fr := fun g (s : Bool) => upd (g) 64 (.bool (s))) [3, 4, 5, 6, 7, 8] [9] ?_ ?_
      · rintro t_16 g w17 h
        unfold F8_j1 at h
        refine ro_val (d := (some 6)) rfl (.free rfl) rfl (q_assign (v := .bool (t_16)) rfl rfl) ?_
        refine ro_nil ?_
        refine wp_ret ?_
        exact ret_ok rfl (.cons (.tmp (v := .bool (t_16)) rfl) .nil) ⟨t_16, rfl, h⟩
      · refine ro_if (b := (r11.2 == (0 : Int))) h (fun hb18 h => ?_) (fun hb18 h => ?_)
        · refine ro_val (d := (some 59)) rfl (.by_ 2 true 58 (r11.2 == (0 : Int)) rfl rfl rfl hb18) rfl (q_move (v := tSlc.enc (r7.1)) rfl rfl) ?_
          refine ro_val (d := (some 60)) rfl (.by_ 2 true 58 (r11.2 == (0 : Int)) rfl rfl rfl hb18) rfl (q_move (v := tSlc.enc (r9.1)) rfl rfl) ?_
          refine ro_wp rfl (.by_ 2 true 58 (r11.2 == (0 : Int)) rfl rfl rfl hb18) (wp_cl (d := (some 61)) rfl (q_call (k := 19) (l := [tSlc.enc (r7.1), tSlc.enc (r9.1)]) rfl ent19 rfl) h ?_)
          intro r20 w19 h
          refine ro_val (d := (some 62)) rfl (.by_ 2 true 58 (r11.2 == (0 : Int)) rfl rfl rfl hb18) rfl (q_move (v := tSlc.enc (r11.1)) rfl rfl) ?_
          refine ro_wp rfl (.by_ 2 true 58 (r11.2 == (0 : Int)) rfl rfl rfl hb18) (wp_cl (d := (some 63)) rfl (q_call (k := 16) (l := [tSlc.enc (r20), tSlc.enc (r11.1)]) rfl ent16 rfl) h ?_)
          intro r22 w21 h
          refine ro_val (d := (some 64)) rfl (.free rfl) rfl (q_pickT (v := .bool (r22)) (b := (r11.2 == (0 : Int))) rfl rfl hb18 rfl) ?_
          refine ro_nil ?_
          exact ⟨(r22), _, arr (upd_step rfl rfl), h⟩
        · refine ro_bar (d := (some 59)) rfl (.by_ 2 true 58 (r11.2 == (0 : Int)) rfl rfl rfl hb18) rfl ?_
          refine ro_bar (d := (some 60)) rfl (.by_ 2 true 58 (r11.2 == (0 : Int)) rfl rfl rfl hb18) rfl ?_
          refine ro_bar (d := (some 61)) rfl (.by_ 2 true 58 (r11.2 == (0 : Int)) rfl rfl rfl hb18) rfl ?_
          refine ro_bar (d := (some 62)) rfl (.by_ 2 true 58 (r11.2 == (0 : Int)) rfl rfl rfl hb18) rfl ?_
          refine ro_bar (d := (some 63)) rfl (.by_ 2 true 58 (r11.2 == (0 : Int)) rfl rfl rfl hb18) rfl ?_
          refine ro_val (d := (some 64)) rfl (.free rfl) rfl (q_pickF (v := .bool (false)) (b := (r11.2 == (0 : Int))) rfl rfl hb18 rfl) ?_
          refine ro_nil ?_
          exact ⟨(false), _, arr (upd_step rfl rfl), h⟩

-- moiety/moietylaw17.few
def F9_l1 (l_1 : Slc) (out_4 : Slc) (i_5 : Int) (w6 : World) (K7 : Slc × Int → World → Prop) (R : (Slc × Bool) → World → Prop) : Prop :=
  if (decide (i_5 < (l_1.len : Int))) = true then (
    ex (IxA l_1 2 i_5) fun a8 =>
    ex (RdAt tSlc (a8.add 1) w6) fun x9 =>
    if (decide ((x9.len : Int) > (60 : Int))) = true then (
      R ((⟨none, 0, 0⟩ : Slc), false) w6
    ) else (
      dr w6 fun w10 =>
      ex (IxA l_1 2 i_5) fun a11 =>
      ex (IxA l_1 2 i_5) fun a12 =>
      ex (RdAt (tInt .i64) (a11.add 0) w10) fun x13 =>
      ex (RdAt tSlc (a12.add 1) w10) fun x14 =>
      nwS 37 T36 ([] : List S36) w10 fun a15 w16 =>
      apd 37 T36 2 16 (⟨some a15, 0, 0⟩ : Slc) x14 w16 fun r18 w17 =>
      kp ((RdAt (tInt .i64) (a11.add 0) w17) x13) <|
      apl 39 T38 2 32 out_4 [(⟨x13, r18⟩ : S38)] w17 fun r23 w22 =>
      kp ((RdAt (tInt .i64) (a11.add 0) w22) x13) <|
      kp ((RdAt tSlc (a12.add 1) w22) x14) <|
      K7 (r23, (IntKind.i64.wrap (i_5 + (1 : Int)))) w22
    )
  ) else (
    R (out_4, true) w6
  )
def F9 (l_1 : Slc) (w : World) (R : (Slc × Bool) → World → Prop) : Prop :=
  if (decide ((l_1.len : Int) > (20 : Int))) = true then (
    R ((⟨none, 0, 0⟩ : Slc), false) w
  ) else (
    nwS 39 T38 ([] : List S38) w fun a2 w3 =>
    lp (fun (s : Slc × Int) w K => F9_l1 l_1 s.1 s.2 w K R) ((⟨some a2, 0, 0⟩ : Slc), (0 : Int)) w3
  )
theorem F9_ok {l_1 : Slc} {w : World} {R : (Slc × Bool) → World → Prop} (h : F9 l_1 w R) : cl Try.prog 9 [tSlc.enc (l_1)] (tTup2 tSlc tBool) w R := by
  unfold F9 at h
  refine calls_start 40 Try.func9 rfl rfl (Nat.le_of_ble_eq_true rfl) ?_
  refine wp_seq ?_
  refine wp_text [0, 1] rfl ?_
  refine ro_val (d := (some 2)) rfl (.free rfl) rfl (q_assign (v := tSlc.enc ((⟨none, 0, 0⟩ : Slc))) rfl rfl) ?_
  refine ro_val (d := (some 3)) rfl (.free rfl) rfl (q_assign (v := .bool (false)) rfl rfl) ?_
  refine ro_nil ?_
  refine wp_seq ?_
  refine wp_seq ?_
  refine wp_text [0, 1, 2] rfl ?_
  refine ro_val (d := (some 6)) rfl (.free rfl) rfl (q_move (v := tSlc.enc (l_1)) rfl rfl) ?_
  refine ro_val (d := (some 7)) rfl (.free rfl) rfl (q_len (s := l_1) rfl Try.underlying22 rfl) ?_
  refine ro_val (d := (some 8)) rfl (.free rfl) rfl (q_gtr (a := (l_1.len : Int)) (b := (20 : Int)) rfl rfl rfl) ?_
  refine ro_nil ?_
  refine wp_if (b := (decide ((l_1.len : Int) > (20 : Int)))) rfl h (fun hb28 h => ?_) (fun hb28 h => ?_)
  · refine wp_seq ?_
    refine wp_text [0, 1] rfl ?_
    refine ro_val (d := (some 2)) rfl (.free rfl) rfl (q_assign (v := tSlc.enc ((⟨none, 0, 0⟩ : Slc))) rfl rfl) ?_
    refine ro_val (d := (some 3)) rfl (.free rfl) rfl (q_assign (v := .bool (false)) rfl rfl) ?_
    refine ro_nil ?_
    refine wp_ret ?_
    exact ret_ok rfl (.cons (.tmp (v := tSlc.enc ((⟨none, 0, 0⟩ : Slc))) rfl) (.cons (.tmp (v := .bool (false)) rfl) .nil)) ⟨((⟨none, 0, 0⟩ : Slc), false), rfl, h⟩
  · refine wp_skip ?_
    refine wp_seq ?_
    refine wp_text [0, 1] rfl ?_
    obtain ⟨a2, w3, ha2, hw3, h⟩ := nwS_open h
    refine ro_val (d := (some 9)) rfl (.free rfl) rfl (q_row0 (T := T38) rfl Try.underlying22 ok39 inf39 ha2 hw3) ?_
    refine ro_val (d := (some 4)) rfl (.free rfl) rfl (q_assign (v := tSlc.enc ((⟨some a2, 0, 0⟩ : Slc))) rfl rfl) ?_
    refine ro_nil ?_
    refine wp_seq ?_
    refine wp_seq ?_
    refine wp_text [0] rfl ?_
    refine ro_val (d := (some 5)) rfl (.free rfl) rfl (q_assign (v := .int .i64 ((0 : Int))) rfl rfl) ?_
    refine ro_nil ?_
    refine wp_block ?_
    refine loop_at (σ := Slc × Int) (fr := fun g (s : Slc × Int) => upd (upd (upd (g) 0 (tSlc.enc (l_1))) 4 (tSlc.enc (s.1))) 5 (.int .i64 (s.2))) (s0 := ((⟨some a2, 0, 0⟩ : Slc), (0 : Int))) (upd_step (upd_step (upd_step rfl rfl) rfl) rfl) h ?_
    rintro ⟨out_4, i_5⟩ g w6 K7 h
    unfold F9_l1 at h
    refine wp_seq ?_
    refine wp_seq ?_
    refine wp_text [0, 1, 2, 3] rfl ?_
    refine ro_val (d := (some 10)) rfl (.free rfl) rfl (q_move (v := .int .i64 (i_5)) rfl rfl) ?_
    refine ro_val (d := (some 11)) rfl (.free rfl) rfl (q_move (v := tSlc.enc (l_1)) rfl rfl) ?_
    refine ro_val (d := (some 12)) rfl (.free rfl) rfl (q_len (s := l_1) rfl Try.underlying22 rfl) ?_
    refine ro_val (d := (some 13)) rfl (.free rfl) rfl (q_lss (a := i_5) (b := (l_1.len : Int)) rfl rfl rfl) ?_
    refine ro_nil ?_
    refine wp_if (b := (decide (i_5 < (l_1.len : Int)))) rfl h (fun hb27 h => ?_) (fun hb27 h => ?_)
    · refine wp_skip ?_
      refine wp_seq ?_
      refine wp_block ?_
      refine wp_seq ?_
      refine wp_seq ?_
      refine wp_text [0, 1, 2, 3, 4, 5, 6] rfl ?_
      refine ro_val (d := (some 16)) rfl (.free rfl) rfl (q_move (v := tSlc.enc (l_1)) rfl rfl) ?_
      refine ro_val (d := (some 17)) rfl (.free rfl) rfl (q_move (v := .int .i64 (i_5)) rfl rfl) ?_
      obtain ⟨a8, ha8, h⟩ := h
      refine ro_val (d := (some 18)) rfl (.free rfl) rfl (q_indexAddr (s := l_1) (i := i_5) rfl Try.underlying22 ok39 rfl rfl ha8) ?_
      refine ro_val (d := (some 19)) rfl (.free rfl) rfl (q_fieldAddr (a := a8) (off := 1) rfl Try.underlying39 rfl rfl ok31 (by decide) rfl) ?_
      obtain ⟨x9, hx9, h⟩ := h
      refine ro_val (d := (some 20)) rfl (.free rfl) rfl (q_load (T := tSlc) (u := x9) (a := (a8.add 1)) rfl ok31 rfl hx9) ?_
      refine ro_val (d := (some 21)) rfl (.free rfl) rfl (q_len (s := x9) rfl Try.underlying31 rfl) ?_
      refine ro_val (d := (some 22)) rfl (.free rfl) rfl (q_gtr (a := (x9.len : Int)) (b := (60 : Int)) rfl rfl rfl) ?_
      refine ro_nil ?_
      refine wp_if (b := (decide ((x9.len : Int) > (60 : Int)))) rfl h (fun hb26 h => ?_) (fun hb26 h => ?_)
      · refine wp_seq ?_
        refine wp_text [0, 1] rfl ?_
        refine ro_val (d := (some 2)) rfl (.free rfl) rfl (q_assign (v := tSlc.enc ((⟨none, 0, 0⟩ : Slc))) rfl rfl) ?_
        refine ro_val (d := (some 3)) rfl (.free rfl) rfl (q_assign (v := .bool (false)) rfl rfl) ?_
        refine ro_nil ?_
        refine wp_ret ?_
        exact ret_ok rfl (.cons (.tmp (v := tSlc.enc ((⟨none, 0, 0⟩ : Slc))) rfl) (.cons (.tmp (v := .bool (false)) rfl) .nil)) ⟨((⟨none, 0, 0⟩ : Slc), false), rfl, h⟩
      · refine wp_skip ?_
        obtain ⟨w10, hw10, h⟩ := dr_open h
        refine wp_drawn 17 mixed rfl (by kernel_rfl) (by intro c a d v w h; cases d <;> exact h) hw10 (fun hD => ?_)
        refine rd_pure (i := 0) (d := (some 23)) hD (by kernel_rfl) (by kernel_rfl) rfl (.free rfl) rfl (fun _ => q_move (v := tSlc.enc (out_4)) rfl rfl) ?_
        refine rd_pure (i := 1) (d := (some 24)) hD (by kernel_rfl) (by kernel_rfl) rfl (.free rfl) rfl (fun _ => q_move (v := tSlc.enc (l_1)) rfl rfl) ?_
        refine rd_pure (i := 2) (d := (some 25)) hD (by kernel_rfl) (by kernel_rfl) rfl (.free rfl) rfl (fun _ => q_move (v := .int .i64 (i_5)) rfl rfl) ?_
        obtain ⟨a11, ha11, h⟩ := h
        refine rd_pure (i := 3) (d := (some 26)) hD (by kernel_rfl) (by kernel_rfl) rfl (.free rfl) rfl (fun _ => q_indexAddr (s := l_1) (i := i_5) rfl Try.underlying22 ok39 rfl rfl ha11) ?_
        refine rd_pure (i := 4) (d := (some 27)) hD (by kernel_rfl) (by kernel_rfl) rfl (.free rfl) rfl (fun _ => q_fieldAddr (a := a11) (off := 0) rfl Try.underlying39 rfl rfl ok2 (by decide) rfl) ?_
        refine rd_pure (i := 7) (d := (some 30)) hD (by kernel_rfl) (by kernel_rfl) rfl (.free rfl) rfl (fun _ => q_move (v := tSlc.enc (l_1)) rfl rfl) ?_
        refine rd_pure (i := 8) (d := (some 31)) hD (by kernel_rfl) (by kernel_rfl) rfl (.free rfl) rfl (fun _ => q_move (v := .int .i64 (i_5)) rfl rfl) ?_
        obtain ⟨a12, ha12, h⟩ := h
        refine rd_pure (i := 9) (d := (some 32)) hD (by kernel_rfl) (by kernel_rfl) rfl (.free rfl) rfl (fun _ => q_indexAddr (s := l_1) (i := i_5) rfl Try.underlying22 ok39 rfl rfl ha12) ?_
        refine rd_pure (i := 10) (d := (some 33)) hD (by kernel_rfl) (by kernel_rfl) rfl (.free rfl) rfl (fun _ => q_fieldAddr (a := a12) (off := 1) rfl Try.underlying39 rfl rfl ok31 (by decide) rfl) ?_
        obtain ⟨x13, hx13, h⟩ := h
        refine rd_read (i := 5) (d := (some 28)) (fun W => (RdAt (tInt .i64) (a11.add 0) W) x13) hD (by kernel_rfl) (by kernel_rfl) rfl (.free rfl) rfl (fun W hr => q_load (T := (tInt .i64)) (u := x13) (a := (a11.add 0)) rfl ok2 rfl hr) hx13 ?_
        obtain ⟨x14, hx14, h⟩ := h
        refine rd_read (i := 11) (d := (some 34)) (fun W => (RdAt tSlc (a12.add 1) W) x14) hD (by kernel_rfl) (by kernel_rfl) rfl (.free rfl) rfl (fun W hr => q_load (T := tSlc) (u := x14) (a := (a12.add 1)) rfl ok31 rfl hr) hx14 ?_
        refine rd_one (i := 6) (by kernel_rfl) ?_
        obtain ⟨a15, w16, ha15, hw16, h⟩ := nwS_open h
        refine po_val (d := (some 29)) rfl (.free rfl) rfl (q_row0 (T := T36) rfl Try.underlying31 ok37 inf37 ha15 hw16) ⟨(hk_keep (fun h => keep_RdAt hw16 h) (hk_keep (fun h => keep_RdAt hw16 h) hk_nil)), ?_⟩
        refine rd_one (i := 12) (by kernel_rfl) ?_
        refine po_wp rfl (.free rfl) (wp_append (d := (some 35)) (T := T36) rfl rfl Try.underlying31 ⟨_, Try.underlying31⟩ ok37 inf37 rfl rfl (Nat.lt_of_lt_of_le Nat.zero_lt_one (Nat.le_of_ble_eq_true rfl)) rfl rfl h ?_)
        intro r18 w17 h
        obtain ⟨hk19, h⟩ := h
        refine ⟨(hk_wait (by kernel_rfl) (hk_keep (fun _ => hk19) hk_nil)), ?_⟩
        refine rd_pure (i := 13) (d := (some 36)) hD (by kernel_rfl) (by kernel_rfl) rfl (.free rfl) rfl (fun _ => q_build39_0_1 (v0 := x13) (v1 := r18) rfl rfl rfl) ?_
        refine rd_one (i := 14) (by kernel_rfl) ?_
        obtain ⟨a20, w21, ha20, hw21, h⟩ := apl_open h
        refine po_val (d := (some 37)) rfl (.free rfl) rfl (q_rowOf (T := T38) (xs := [(⟨x13, r18⟩ : S38)]) rfl Try.underlying22 ok39 inf39 rfl (by decide) (by decide) rfl ha20 hw21) ⟨(hk_keep (fun h => keep_RdAt hw21 h) (hk_keep (fun h => keep_RdAt hw21 h) hk_nil)), ?_⟩
        refine rd_one (i := 15) (by kernel_rfl) ?_
        refine po_wp rfl (.free rfl) (wp_append (d := (some 38)) (T := T38) rfl rfl Try.underlying22 ⟨_, Try.underlying22⟩ ok39 inf39 rfl rfl (Nat.lt_of_lt_of_le Nat.zero_lt_one (Nat.le_of_ble_eq_true rfl)) rfl rfl h ?_)
        intro r23 w22 h
        obtain ⟨hk24, h⟩ := h
        obtain ⟨hk25, h⟩ := h
        refine ⟨(hk_keep (fun _ => hk25) (hk_keep (fun _ => hk24) hk_nil)), ?_⟩
        refine rd_pure (i := 16) (d := (some 4)) hD (by kernel_rfl) (by kernel_rfl) rfl (.free rfl) rfl (fun _ => q_assign (v := tSlc.enc (r23)) rfl rfl) ?_
        refine rd_nil (by kernel_rfl) ?_
        refine wp_text [0, 1, 2] rfl ?_
        refine ro_val (d := (some 14)) rfl (.free rfl) rfl (q_move (v := .int .i64 (i_5)) rfl rfl) ?_
        refine ro_val (d := (some 15)) rfl (.free rfl) rfl (q_add (a := i_5) (b := (1 : Int)) rfl rfl rfl) ?_
        refine ro_val (d := (some 5)) rfl (.free rfl) rfl (q_assign (v := .int .i64 ((IntKind.i64.wrap (i_5 + (1 : Int))))) rfl rfl) ?_
        refine ro_nil ?_
        exact ⟨(r23, (IntKind.i64.wrap (i_5 + (1 : Int)))), _, arr (upd_step (upd_step (upd_step rfl rfl) rfl) rfl), h⟩
    · refine wp_exit ?_
      refine wp_seq ?_
      refine wp_text [0, 1, 2] rfl ?_
      refine ro_val (d := (some 39)) rfl (.free rfl) rfl (q_move (v := tSlc.enc (out_4)) rfl rfl) ?_
      refine ro_val (d := (some 2)) rfl (.free rfl) rfl (q_assign (v := tSlc.enc (out_4)) rfl rfl) ?_
      refine ro_val (d := (some 3)) rfl (.free rfl) rfl (q_assign (v := .bool (true)) rfl rfl) ?_
      refine ro_nil ?_
      refine wp_ret ?_
      exact ret_ok rfl (.cons (.tmp (v := tSlc.enc (out_4)) rfl) (.cons (.tmp (v := .bool (true)) rfl) .nil)) ⟨(out_4, true), rfl, h⟩

end Go.Proofs.Ytleehieomicicaa.Cf
