/- Characteristic formulae of Go functions, and that they are. Printed by gen.py (own tool). -/
import Derived.Test.YtleehieomicicaaTy
namespace Go.Proofs.Ytleehieomicicaa.Cf
open Go
set_option maxRecDepth 100000
set_option maxHeartbeats 1000000
set_option linter.unusedVariables false
set_option linter.unusedSimpArgs false

-- moiety/moietylaw17.awake
def F10 (w : World) (R : Bool → World → Prop) : Prop :=
  nwS 37 T36 [(⟨(7 : Int), (798 : Int)⟩ : S36), (⟨(4103 : Int), (2 : Int)⟩ : S36)] w fun a1 w2 =>
  nwS 37 T36 [(⟨(8 : Int), (200 : Int)⟩ : S36)] w2 fun a3 w4 =>
  nwS 39 T38 [(⟨(9 : Int), (⟨some a1, 2, 2⟩ : Slc)⟩ : S38), (⟨(9 : Int), (⟨some a3, 1, 1⟩ : Slc)⟩ : S38)] w4 fun a5 w6 =>
  cl Try.prog 11 [.int .i64 ((9 : Int)), tSlc.enc ((⟨some a5, 2, 2⟩ : Slc))] (tTup2 (tInt .i64) (tInt .i64)) w6 fun r8 w7 =>
  cl Try.prog 14 [.int .i64 ((9 : Int)), tSlc.enc ((⟨some a5, 2, 2⟩ : Slc))] (tTup2 tSlc (tInt .i64)) w7 fun r10 w9 =>
  cl Try.prog 11 [.int .i64 ((8 : Int)), tSlc.enc ((⟨some a5, 2, 2⟩ : Slc))] (tTup2 (tInt .i64) (tInt .i64)) w9 fun r12 w11 =>
  nwS 37 T36 [(⟨(7 : Int), (1000 : Int)⟩ : S36)] w11 fun a13 w14 =>
  nwS 37 T36 [(⟨(7 : Int), (798 : Int)⟩ : S36), (⟨(8 : Int), (200 : Int)⟩ : S36)] w14 fun a15 w16 =>
  cl Try.prog 17 [tSlc.enc ((⟨some a13, 1, 1⟩ : Slc)), tSlc.enc ((⟨some a15, 2, 2⟩ : Slc))] (tTup2 tSlc (tInt .i64)) w16 fun r18 w17 =>
  ex (fun x => ((((r8.1 == (1000 : Int)) && (r8.2 == (0 : Int))) && (r10.2 == (0 : Int))) && ((r10.1.len : Int) == (3 : Int))) = true → (IxA r10.1 2 (1 : Int)) x) fun a19 =>
  ex (fun x => ((((r8.1 == (1000 : Int)) && (r8.2 == (0 : Int))) && (r10.2 == (0 : Int))) && ((r10.1.len : Int) == (3 : Int))) = true → (RdAt (tInt .i64) (a19.add 0) w17) x) fun x20 =>
  ex (fun x => ((((((((r8.1 == (1000 : Int)) && (r8.2 == (0 : Int))) && (r10.2 == (0 : Int))) && ((r10.1.len : Int) == (3 : Int))) && (x20 == (8 : Int))) && (r12.2 == (180 : Int))) && (r18.2 == (0 : Int))) && ((r18.1.len : Int) == (2 : Int))) = true → (IxA r18.1 2 (0 : Int)) x) fun a21 =>
  ex (fun x => ((((((((r8.1 == (1000 : Int)) && (r8.2 == (0 : Int))) && (r10.2 == (0 : Int))) && ((r10.1.len : Int) == (3 : Int))) && (x20 == (8 : Int))) && (r12.2 == (180 : Int))) && (r18.2 == (0 : Int))) && ((r18.1.len : Int) == (2 : Int))) = true → (RdAt (tInt .i64) (a21.add 1) w17) x) fun x22 =>
  ex (fun x => (((((((((r8.1 == (1000 : Int)) && (r8.2 == (0 : Int))) && (r10.2 == (0 : Int))) && ((r10.1.len : Int) == (3 : Int))) && (x20 == (8 : Int))) && (r12.2 == (180 : Int))) && (r18.2 == (0 : Int))) && ((r18.1.len : Int) == (2 : Int))) && (x22 == (-202 : Int))) = true → (IxA r18.1 2 (1 : Int)) x) fun a23 =>
  ex (fun x => (((((((((r8.1 == (1000 : Int)) && (r8.2 == (0 : Int))) && (r10.2 == (0 : Int))) && ((r10.1.len : Int) == (3 : Int))) && (x20 == (8 : Int))) && (r12.2 == (180 : Int))) && (r18.2 == (0 : Int))) && ((r18.1.len : Int) == (2 : Int))) && (x22 == (-202 : Int))) = true → (RdAt (tInt .i64) (a23.add 1) w17) x) fun x24 =>
  R ((((((((((r8.1 == (1000 : Int)) && (r8.2 == (0 : Int))) && (r10.2 == (0 : Int))) && ((r10.1.len : Int) == (3 : Int))) && (x20 == (8 : Int))) && (r12.2 == (180 : Int))) && (r18.2 == (0 : Int))) && ((r18.1.len : Int) == (2 : Int))) && (x22 == (-202 : Int))) && (x24 == (200 : Int))) w17
theorem F10_ok {w : World} {R : Bool → World → Prop} (h : F10 w R) : cl Try.prog 10 [] tBool w R := by
  unfold F10 at h
  refine calls_start 91 Try.func10 rfl rfl (Nat.le_of_ble_eq_true rfl) ?_
  refine wp_seq ?_
  refine wp_text [0] rfl ?_
  refine ro_val (d := (some 0)) rfl (.free rfl) rfl (q_assign (v := .bool (false)) rfl rfl) ?_
  refine ro_nil ?_
  refine wp_seq ?_
  refine wp_text [0, 1, 2, 3, 4, 5, 6, 7, 8] rfl ?_
  refine ro_val (d := (some 10)) rfl (.free rfl) rfl (q_build37_0_1 (v0 := (7 : Int)) (v1 := (798 : Int)) rfl rfl rfl) ?_
  refine ro_val (d := (some 11)) rfl (.free rfl) rfl (q_build37_0_1 (v0 := (4103 : Int)) (v1 := (2 : Int)) rfl rfl rfl) ?_
  obtain ⟨a1, w2, ha1, hw2, h⟩ := nwS_open h
  refine ro_val (d := (some 12)) rfl (.free rfl) rfl (q_rowOf (T := T36) (xs := [(⟨(7 : Int), (798 : Int)⟩ : S36), (⟨(4103 : Int), (2 : Int)⟩ : S36)]) rfl Try.underlying31 ok37 inf37 rfl (by decide) (by decide) rfl ha1 hw2) ?_
  refine ro_val (d := (some 13)) rfl (.free rfl) rfl (q_build39_0_1 (v0 := (9 : Int)) (v1 := (⟨some a1, 2, 2⟩ : Slc)) rfl rfl rfl) ?_
  refine ro_val (d := (some 14)) rfl (.free rfl) rfl (q_build37_0_1 (v0 := (8 : Int)) (v1 := (200 : Int)) rfl rfl rfl) ?_
  obtain ⟨a3, w4, ha3, hw4, h⟩ := nwS_open h
  refine ro_val (d := (some 15)) rfl (.free rfl) rfl (q_rowOf (T := T36) (xs := [(⟨(8 : Int), (200 : Int)⟩ : S36)]) rfl Try.underlying31 ok37 inf37 rfl (by decide) (by decide) rfl ha3 hw4) ?_
  refine ro_val (d := (some 16)) rfl (.free rfl) rfl (q_build39_0_1 (v0 := (9 : Int)) (v1 := (⟨some a3, 1, 1⟩ : Slc)) rfl rfl rfl) ?_
  obtain ⟨a5, w6, ha5, hw6, h⟩ := nwS_open h
  refine ro_val (d := (some 17)) rfl (.free rfl) rfl (q_rowOf (T := T38) (xs := [(⟨(9 : Int), (⟨some a1, 2, 2⟩ : Slc)⟩ : S38), (⟨(9 : Int), (⟨some a3, 1, 1⟩ : Slc)⟩ : S38)]) rfl Try.underlying22 ok39 inf39 rfl (by decide) (by decide) rfl ha5 hw6) ?_
  refine ro_val (d := (some 1)) rfl (.free rfl) rfl (q_assign (v := tSlc.enc ((⟨some a5, 2, 2⟩ : Slc))) rfl rfl) ?_
  refine ro_nil ?_
  refine wp_seq ?_
  refine wp_text [0, 1, 2, 3, 4, 5, 6] rfl ?_
  refine ro_val (d := (some 19)) rfl (.free rfl) rfl (q_move (v := tSlc.enc ((⟨some a5, 2, 2⟩ : Slc))) rfl rfl) ?_
  refine ro_wp rfl (.free rfl) (wp_cl (d := (some 20)) rfl (q_call (k := 11) (l := [.int .i64 ((9 : Int)), tSlc.enc ((⟨some a5, 2, 2⟩ : Slc))]) rfl ent11 rfl) h ?_)
  intro r8 w7 h
  refine ro_val (d := (some 18)) rfl (.free rfl) rfl (q_move (v := (tTup2 (tInt .i64) (tInt .i64)).enc (r8)) rfl rfl) ?_
  refine ro_val (d := (some 21)) rfl (.free rfl) rfl (q_extract (vs := #[.int .i64 (r8.1), .int .i64 (r8.2)]) (v := .int .i64 (r8.1)) rfl rfl rfl) ?_
  refine ro_val (d := (some 22)) rfl (.free rfl) rfl (q_extract (vs := #[.int .i64 (r8.1), .int .i64 (r8.2)]) (v := .int .i64 (r8.2)) rfl rfl rfl) ?_
  refine ro_val (d := (some 2)) rfl (.free rfl) rfl (q_assign (v := .int .i64 (r8.1)) rfl rfl) ?_
  refine ro_val (d := (some 3)) rfl (.free rfl) rfl (q_assign (v := .int .i64 (r8.2)) rfl rfl) ?_
  refine ro_nil ?_
  refine wp_seq ?_
  refine wp_text [0, 1, 2, 3, 4, 5, 6] rfl ?_
  refine ro_val (d := (some 24)) rfl (.free rfl) rfl (q_move (v := tSlc.enc ((⟨some a5, 2, 2⟩ : Slc))) rfl rfl) ?_
  refine ro_wp rfl (.free rfl) (wp_cl (d := (some 25)) rfl (q_call (k := 14) (l := [.int .i64 ((9 : Int)), tSlc.enc ((⟨some a5, 2, 2⟩ : Slc))]) rfl ent14 rfl) h ?_)
  intro r10 w9 h
  refine ro_val (d := (some 23)) rfl (.free rfl) rfl (q_move (v := (tTup2 tSlc (tInt .i64)).enc (r10)) rfl rfl) ?_
  refine ro_val (d := (some 26)) rfl (.free rfl) rfl (q_extract (vs := #[tSlc.enc (r10.1), .int .i64 (r10.2)]) (v := tSlc.enc (r10.1)) rfl rfl rfl) ?_
  refine ro_val (d := (some 27)) rfl (.free rfl) rfl (q_extract (vs := #[tSlc.enc (r10.1), .int .i64 (r10.2)]) (v := .int .i64 (r10.2)) rfl rfl rfl) ?_
  refine ro_val (d := (some 4)) rfl (.free rfl) rfl (q_assign (v := tSlc.enc (r10.1)) rfl rfl) ?_
  refine ro_val (d := (some 5)) rfl (.free rfl) rfl (q_assign (v := .int .i64 (r10.2)) rfl rfl) ?_
  refine ro_nil ?_
  refine wp_seq ?_
  refine wp_text [0, 1, 2, 3, 4, 5, 6] rfl ?_
  refine ro_val (d := (some 29)) rfl (.free rfl) rfl (q_move (v := tSlc.enc ((⟨some a5, 2, 2⟩ : Slc))) rfl rfl) ?_
  refine ro_wp rfl (.free rfl) (wp_cl (d := (some 30)) rfl (q_call (k := 11) (l := [.int .i64 ((8 : Int)), tSlc.enc ((⟨some a5, 2, 2⟩ : Slc))]) rfl ent11 rfl) h ?_)
  intro r12 w11 h
  refine ro_val (d := (some 28)) rfl (.free rfl) rfl (q_move (v := (tTup2 (tInt .i64) (tInt .i64)).enc (r12)) rfl rfl) ?_
  refine ro_val (d := (some 31)) rfl (.free rfl) rfl (q_extract (vs := #[.int .i64 (r12.1), .int .i64 (r12.2)]) (v := .int .i64 (r12.1)) rfl rfl rfl) ?_
  refine ro_val (d := (some 32)) rfl (.free rfl) rfl (q_extract (vs := #[.int .i64 (r12.1), .int .i64 (r12.2)]) (v := .int .i64 (r12.2)) rfl rfl rfl) ?_
  refine ro_val (d := (some 6)) rfl (.free rfl) rfl (q_assign (v := .int .i64 (r12.1)) rfl rfl) ?_
  refine ro_val (d := (some 7)) rfl (.free rfl) rfl (q_assign (v := .int .i64 (r12.2)) rfl rfl) ?_
  refine ro_nil ?_
  refine wp_seq ?_
  refine wp_text [0, 1, 2, 3, 4, 5, 6, 7, 8, 9, 10] rfl ?_
  refine ro_val (d := (some 34)) rfl (.free rfl) rfl (q_build37_0_1 (v0 := (7 : Int)) (v1 := (1000 : Int)) rfl rfl rfl) ?_
  obtain ⟨a13, w14, ha13, hw14, h⟩ := nwS_open h
  refine ro_val (d := (some 35)) rfl (.free rfl) rfl (q_rowOf (T := T36) (xs := [(⟨(7 : Int), (1000 : Int)⟩ : S36)]) rfl Try.underlying31 ok37 inf37 rfl (by decide) (by decide) rfl ha13 hw14) ?_
  refine ro_val (d := (some 36)) rfl (.free rfl) rfl (q_build37_0_1 (v0 := (7 : Int)) (v1 := (798 : Int)) rfl rfl rfl) ?_
  refine ro_val (d := (some 37)) rfl (.free rfl) rfl (q_build37_0_1 (v0 := (8 : Int)) (v1 := (200 : Int)) rfl rfl rfl) ?_
  obtain ⟨a15, w16, ha15, hw16, h⟩ := nwS_open h
  refine ro_val (d := (some 38)) rfl (.free rfl) rfl (q_rowOf (T := T36) (xs := [(⟨(7 : Int), (798 : Int)⟩ : S36), (⟨(8 : Int), (200 : Int)⟩ : S36)]) rfl Try.underlying31 ok37 inf37 rfl (by decide) (by decide) rfl ha15 hw16) ?_
  refine ro_wp rfl (.free rfl) (wp_cl (d := (some 39)) rfl (q_call (k := 17) (l := [tSlc.enc ((⟨some a13, 1, 1⟩ : Slc)), tSlc.enc ((⟨some a15, 2, 2⟩ : Slc))]) rfl ent17 rfl) h ?_)
  intro r18 w17 h
  refine ro_val (d := (some 33)) rfl (.free rfl) rfl (q_move (v := (tTup2 tSlc (tInt .i64)).enc (r18)) rfl rfl) ?_
  refine ro_val (d := (some 40)) rfl (.free rfl) rfl (q_extract (vs := #[tSlc.enc (r18.1), .int .i64 (r18.2)]) (v := tSlc.enc (r18.1)) rfl rfl rfl) ?_
  refine ro_val (d := (some 41)) rfl (.free rfl) rfl (q_extract (vs := #[tSlc.enc (r18.1), .int .i64 (r18.2)]) (v := .int .i64 (r18.2)) rfl rfl rfl) ?_
  refine ro_val (d := (some 8)) rfl (.free rfl) rfl (q_assign (v := tSlc.enc (r18.1)) rfl rfl) ?_
  refine ro_val (d := (some 9)) rfl (.free rfl) rfl (q_assign (v := .int .i64 (r18.2)) rfl rfl) ?_
  refine ro_nil ?_
  refine wp_seq ?_
  refine wp_text [0, 1, 2, 3, 4, 5, 6, 7, 8, 9, 10, 11, 12, 13, 14, 15, 16, 17, 18, 19, 20, 21, 22, 23, 24, 25, 26, 27, 28, 29, 30, 31, 32, 33, 34, 35, 36, 37, 38, 39, 40, 41, 42, 43, 44, 45, 46, 47, 48, 49] rfl ?_
  refine ro_val (d := (some 42)) rfl (.free rfl) rfl (q_move (v := .int .i64 (r8.1)) rfl rfl) ?_
  refine ro_val (d := (some 43)) rfl (.free rfl) rfl (q_eql (a := r8.1) (b := (1000 : Int)) rfl rfl rfl) ?_
  refine ro_val (d := (some 44)) rfl (.free rfl) rfl (q_move (v := .bool ((r8.1 == (1000 : Int)))) rfl rfl) ?_
  refine ro_gval (g := (r8.1 == (1000 : Int))) (d := (some 45)) rfl (.yes 2 44 true (r8.1 == (1000 : Int)) rfl rfl rfl rfl) rfl (fun hg => q_move (v := .int .i64 (r8.2)) rfl rfl) ?_
  refine ro_gval (g := (r8.1 == (1000 : Int))) (d := (some 46)) rfl (.yes 2 44 true (r8.1 == (1000 : Int)) rfl rfl rfl rfl) rfl (fun hg => q_eql (a := r8.2) (b := (0 : Int)) rfl (gvb_yes hg) rfl) ?_
  refine ro_val (d := (some 47)) rfl (.free rfl) rfl (q_pickGT (a := (r8.1 == (1000 : Int))) (b := (r8.2 == (0 : Int))) rfl rfl rfl rfl) ?_
  refine ro_val (d := (some 48)) rfl (.free rfl) rfl (q_move (v := .bool (((r8.1 == (1000 : Int)) && (r8.2 == (0 : Int))))) rfl rfl) ?_
  refine ro_gval (g := ((r8.1 == (1000 : Int)) && (r8.2 == (0 : Int)))) (d := (some 49)) rfl (.yes 6 48 true ((r8.1 == (1000 : Int)) && (r8.2 == (0 : Int))) rfl rfl rfl rfl) rfl (fun hg => q_move (v := .int .i64 (r10.2)) rfl rfl) ?_
  refine ro_gval (g := ((r8.1 == (1000 : Int)) && (r8.2 == (0 : Int)))) (d := (some 50)) rfl (.yes 6 48 true ((r8.1 == (1000 : Int)) && (r8.2 == (0 : Int))) rfl rfl rfl rfl) rfl (fun hg => q_eql (a := r10.2) (b := (0 : Int)) rfl (gvb_yes hg) rfl) ?_
  refine ro_val (d := (some 51)) rfl (.free rfl) rfl (q_pickGT (a := ((r8.1 == (1000 : Int)) && (r8.2 == (0 : Int)))) (b := (r10.2 == (0 : Int))) rfl rfl rfl rfl) ?_
  refine ro_val (d := (some 52)) rfl (.free rfl) rfl (q_move (v := .bool ((((r8.1 == (1000 : Int)) && (r8.2 == (0 : Int))) && (r10.2 == (0 : Int))))) rfl rfl) ?_
  refine ro_gval (g := (((r8.1 == (1000 : Int)) && (r8.2 == (0 : Int))) && (r10.2 == (0 : Int)))) (d := (some 53)) rfl (.yes 10 52 true (((r8.1 == (1000 : Int)) && (r8.2 == (0 : Int))) && (r10.2 == (0 : Int))) rfl rfl rfl rfl) rfl (fun hg => q_move (v := tSlc.enc (r10.1)) rfl rfl) ?_
  refine ro_gval (g := (((r8.1 == (1000 : Int)) && (r8.2 == (0 : Int))) && (r10.2 == (0 : Int)))) (d := (some 54)) rfl (.yes 10 52 true (((r8.1 == (1000 : Int)) && (r8.2 == (0 : Int))) && (r10.2 == (0 : Int))) rfl rfl rfl rfl) rfl (fun hg => q_len (s := r10.1) rfl Try.underlying31 (gvb_yes hg)) ?_
  refine ro_gval (g := (((r8.1 == (1000 : Int)) && (r8.2 == (0 : Int))) && (r10.2 == (0 : Int)))) (d := (some 55)) rfl (.yes 10 52 true (((r8.1 == (1000 : Int)) && (r8.2 == (0 : Int))) && (r10.2 == (0 : Int))) rfl rfl rfl rfl) rfl (fun hg => q_eql (a := (r10.1.len : Int)) (b := (3 : Int)) rfl (gvb_yes hg) rfl) ?_
  refine ro_val (d := (some 56)) rfl (.free rfl) rfl (q_pickGT (a := (((r8.1 == (1000 : Int)) && (r8.2 == (0 : Int))) && (r10.2 == (0 : Int)))) (b := ((r10.1.len : Int) == (3 : Int))) rfl rfl rfl rfl) ?_
  refine ro_val (d := (some 57)) rfl (.free rfl) rfl (q_move (v := .bool (((((r8.1 == (1000 : Int)) && (r8.2 == (0 : Int))) && (r10.2 == (0 : Int))) && ((r10.1.len : Int) == (3 : Int))))) rfl rfl) ?_
  refine ro_gval (g := ((((r8.1 == (1000 : Int)) && (r8.2 == (0 : Int))) && (r10.2 == (0 : Int))) && ((r10.1.len : Int) == (3 : Int)))) (d := (some 58)) rfl (.yes 15 57 true ((((r8.1 == (1000 : Int)) && (r8.2 == (0 : Int))) && (r10.2 == (0 : Int))) && ((r10.1.len : Int) == (3 : Int))) rfl rfl rfl rfl) rfl (fun hg => q_move (v := tSlc.enc (r10.1)) rfl rfl) ?_
  obtain ⟨a19, ha19, h⟩ := h
  refine ro_gval (g := ((((r8.1 == (1000 : Int)) && (r8.2 == (0 : Int))) && (r10.2 == (0 : Int))) && ((r10.1.len : Int) == (3 : Int)))) (d := (some 59)) rfl (.yes 15 57 true ((((r8.1 == (1000 : Int)) && (r8.2 == (0 : Int))) && (r10.2 == (0 : Int))) && ((r10.1.len : Int) == (3 : Int))) rfl rfl rfl rfl) rfl (fun hg => q_indexAddr (s := r10.1) (i := (1 : Int)) rfl Try.underlying31 ok37 (gvb_yes hg) rfl (ha19 hg)) ?_
  refine ro_gval (g := ((((r8.1 == (1000 : Int)) && (r8.2 == (0 : Int))) && (r10.2 == (0 : Int))) && ((r10.1.len : Int) == (3 : Int)))) (d := (some 60)) rfl (.yes 15 57 true ((((r8.1 == (1000 : Int)) && (r8.2 == (0 : Int))) && (r10.2 == (0 : Int))) && ((r10.1.len : Int) == (3 : Int))) rfl rfl rfl rfl) rfl (fun hg => q_fieldAddr (a := a19) (off := 0) rfl Try.underlying37 rfl rfl ok3 (by decide) (gvb_yes hg)) ?_
  obtain ⟨x20, hx20, h⟩ := h
  refine ro_gval (g := ((((r8.1 == (1000 : Int)) && (r8.2 == (0 : Int))) && (r10.2 == (0 : Int))) && ((r10.1.len : Int) == (3 : Int)))) (d := (some 61)) rfl (.yes 15 57 true ((((r8.1 == (1000 : Int)) && (r8.2 == (0 : Int))) && (r10.2 == (0 : Int))) && ((r10.1.len : Int) == (3 : Int))) rfl rfl rfl rfl) rfl (fun hg => q_load (T := (tInt .i64)) (u := x20) (a := (a19.add 0)) rfl ok3 (gvb_yes hg) (hx20 hg)) ?_
  refine ro_gval (g := ((((r8.1 == (1000 : Int)) && (r8.2 == (0 : Int))) && (r10.2 == (0 : Int))) && ((r10.1.len : Int) == (3 : Int)))) (d := (some 62)) rfl (.yes 15 57 true ((((r8.1 == (1000 : Int)) && (r8.2 == (0 : Int))) && (r10.2 == (0 : Int))) && ((r10.1.len : Int) == (3 : Int))) rfl rfl rfl rfl) rfl (fun hg => q_eql (a := x20) (b := (8 : Int)) rfl (gvb_yes hg) rfl) ?_
  refine ro_val (d := (some 63)) rfl (.free rfl) rfl (q_pickGT (a := ((((r8.1 == (1000 : Int)) && (r8.2 == (0 : Int))) && (r10.2 == (0 : Int))) && ((r10.1.len : Int) == (3 : Int)))) (b := (x20 == (8 : Int))) rfl rfl rfl rfl) ?_
  refine ro_val (d := (some 64)) rfl (.free rfl) rfl (q_move (v := .bool ((((((r8.1 == (1000 : Int)) && (r8.2 == (0 : Int))) && (r10.2 == (0 : Int))) && ((r10.1.len : Int) == (3 : Int))) && (x20 == (8 : Int))))) rfl rfl) ?_
  refine ro_gval (g := (((((r8.1 == (1000 : Int)) && (r8.2 == (0 : Int))) && (r10.2 == (0 : Int))) && ((r10.1.len : Int) == (3 : Int))) && (x20 == (8 : Int)))) (d := (some 65)) rfl (.yes 22 64 true (((((r8.1 == (1000 : Int)) && (r8.2 == (0 : Int))) && (r10.2 == (0 : Int))) && ((r10.1.len : Int) == (3 : Int))) && (x20 == (8 : Int))) rfl rfl rfl rfl) rfl (fun hg => q_move (v := .int .i64 (r12.2)) rfl rfl) ?_
  refine ro_gval (g := (((((r8.1 == (1000 : Int)) && (r8.2 == (0 : Int))) && (r10.2 == (0 : Int))) && ((r10.1.len : Int) == (3 : Int))) && (x20 == (8 : Int)))) (d := (some 66)) rfl (.yes 22 64 true (((((r8.1 == (1000 : Int)) && (r8.2 == (0 : Int))) && (r10.2 == (0 : Int))) && ((r10.1.len : Int) == (3 : Int))) && (x20 == (8 : Int))) rfl rfl rfl rfl) rfl (fun hg => q_eql (a := r12.2) (b := (180 : Int)) rfl (gvb_yes hg) rfl) ?_
  refine ro_val (d := (some 67)) rfl (.free rfl) rfl (q_pickGT (a := (((((r8.1 == (1000 : Int)) && (r8.2 == (0 : Int))) && (r10.2 == (0 : Int))) && ((r10.1.len : Int) == (3 : Int))) && (x20 == (8 : Int)))) (b := (r12.2 == (180 : Int))) rfl rfl rfl rfl) ?_
  refine ro_val (d := (some 68)) rfl (.free rfl) rfl (q_move (v := .bool (((((((r8.1 == (1000 : Int)) && (r8.2 == (0 : Int))) && (r10.2 == (0 : Int))) && ((r10.1.len : Int) == (3 : Int))) && (x20 == (8 : Int))) && (r12.2 == (180 : Int))))) rfl rfl) ?_
  refine ro_gval (g := ((((((r8.1 == (1000 : Int)) && (r8.2 == (0 : Int))) && (r10.2 == (0 : Int))) && ((r10.1.len : Int) == (3 : Int))) && (x20 == (8 : Int))) && (r12.2 == (180 : Int)))) (d := (some 69)) rfl (.yes 26 68 true ((((((r8.1 == (1000 : Int)) && (r8.2 == (0 : Int))) && (r10.2 == (0 : Int))) && ((r10.1.len : Int) == (3 : Int))) && (x20 == (8 : Int))) && (r12.2 == (180 : Int))) rfl rfl rfl rfl) rfl (fun hg => q_move (v := .int .i64 (r18.2)) rfl rfl) ?_
  refine ro_gval (g := ((((((r8.1 == (1000 : Int)) && (r8.2 == (0 : Int))) && (r10.2 == (0 : Int))) && ((r10.1.len : Int) == (3 : Int))) && (x20 == (8 : Int))) && (r12.2 == (180 : Int)))) (d := (some 70)) rfl (.yes 26 68 true ((((((r8.1 == (1000 : Int)) && (r8.2 == (0 : Int))) && (r10.2 == (0 : Int))) && ((r10.1.len : Int) == (3 : Int))) && (x20 == (8 : Int))) && (r12.2 == (180 : Int))) rfl rfl rfl rfl) rfl (fun hg => q_eql (a := r18.2) (b := (0 : Int)) rfl (gvb_yes hg) rfl) ?_
  refine ro_val (d := (some 71)) rfl (.free rfl) rfl (q_pickGT (a := ((((((r8.1 == (1000 : Int)) && (r8.2 == (0 : Int))) && (r10.2 == (0 : Int))) && ((r10.1.len : Int) == (3 : Int))) && (x20 == (8 : Int))) && (r12.2 == (180 : Int)))) (b := (r18.2 == (0 : Int))) rfl rfl rfl rfl) ?_
  refine ro_val (d := (some 72)) rfl (.free rfl) rfl (q_move (v := .bool ((((((((r8.1 == (1000 : Int)) && (r8.2 == (0 : Int))) && (r10.2 == (0 : Int))) && ((r10.1.len : Int) == (3 : Int))) && (x20 == (8 : Int))) && (r12.2 == (180 : Int))) && (r18.2 == (0 : Int))))) rfl rfl) ?_
  refine ro_gval (g := (((((((r8.1 == (1000 : Int)) && (r8.2 == (0 : Int))) && (r10.2 == (0 : Int))) && ((r10.1.len : Int) == (3 : Int))) && (x20 == (8 : Int))) && (r12.2 == (180 : Int))) && (r18.2 == (0 : Int)))) (d := (some 73)) rfl (.yes 30 72 true (((((((r8.1 == (1000 : Int)) && (r8.2 == (0 : Int))) && (r10.2 == (0 : Int))) && ((r10.1.len : Int) == (3 : Int))) && (x20 == (8 : Int))) && (r12.2 == (180 : Int))) && (r18.2 == (0 : Int))) rfl rfl rfl rfl) rfl (fun hg => q_move (v := tSlc.enc (r18.1)) rfl rfl) ?_
  refine ro_gval (g := (((((((r8.1 == (1000 : Int)) && (r8.2 == (0 : Int))) && (r10.2 == (0 : Int))) && ((r10.1.len : Int) == (3 : Int))) && (x20 == (8 : Int))) && (r12.2 == (180 : Int))) && (r18.2 == (0 : Int)))) (d := (some 74)) rfl (.yes 30 72 true (((((((r8.1 == (1000 : Int)) && (r8.2 == (0 : Int))) && (r10.2 == (0 : Int))) && ((r10.1.len : Int) == (3 : Int))) && (x20 == (8 : Int))) && (r12.2 == (180 : Int))) && (r18.2 == (0 : Int))) rfl rfl rfl rfl) rfl (fun hg => q_len (s := r18.1) rfl Try.underlying31 (gvb_yes hg)) ?_
  refine ro_gval (g := (((((((r8.1 == (1000 : Int)) && (r8.2 == (0 : Int))) && (r10.2 == (0 : Int))) && ((r10.1.len : Int) == (3 : Int))) && (x20 == (8 : Int))) && (r12.2 == (180 : Int))) && (r18.2 == (0 : Int)))) (d := (some 75)) rfl (.yes 30 72 true (((((((r8.1 == (1000 : Int)) && (r8.2 == (0 : Int))) && (r10.2 == (0 : Int))) && ((r10.1.len : Int) == (3 : Int))) && (x20 == (8 : Int))) && (r12.2 == (180 : Int))) && (r18.2 == (0 : Int))) rfl rfl rfl rfl) rfl (fun hg => q_eql (a := (r18.1.len : Int)) (b := (2 : Int)) rfl (gvb_yes hg) rfl) ?_
  refine ro_val (d := (some 76)) rfl (.free rfl) rfl (q_pickGT (a := (((((((r8.1 == (1000 : Int)) && (r8.2 == (0 : Int))) && (r10.2 == (0 : Int))) && ((r10.1.len : Int) == (3 : Int))) && (x20 == (8 : Int))) && (r12.2 == (180 : Int))) && (r18.2 == (0 : Int)))) (b := ((r18.1.len : Int) == (2 : Int))) rfl rfl rfl rfl) ?_
  refine ro_val (d := (some 77)) rfl (.free rfl) rfl (q_move (v := .bool (((((((((r8.1 == (1000 : Int)) && (r8.2 == (0 : Int))) && (r10.2 == (0 : Int))) && ((r10.1.len : Int) == (3 : Int))) && (x20 == (8 : Int))) && (r12.2 == (180 : Int))) && (r18.2 == (0 : Int))) && ((r18.1.len : Int) == (2 : Int))))) rfl rfl) ?_
  refine ro_gval (g := ((((((((r8.1 == (1000 : Int)) && (r8.2 == (0 : Int))) && (r10.2 == (0 : Int))) && ((r10.1.len : Int) == (3 : Int))) && (x20 == (8 : Int))) && (r12.2 == (180 : Int))) && (r18.2 == (0 : Int))) && ((r18.1.len : Int) == (2 : Int)))) (d := (some 78)) rfl (.yes 35 77 true ((((((((r8.1 == (1000 : Int)) && (r8.2 == (0 : Int))) && (r10.2 == (0 : Int))) && ((r10.1.len : Int) == (3 : Int))) && (x20 == (8 : Int))) && (r12.2 == (180 : Int))) && (r18.2 == (0 : Int))) && ((r18.1.len : Int) == (2 : Int))) rfl rfl rfl rfl) rfl (fun hg => q_move (v := tSlc.enc (r18.1)) rfl rfl) ?_
  obtain ⟨a21, ha21, h⟩ := h
  refine ro_gval (g := ((((((((r8.1 == (1000 : Int)) && (r8.2 == (0 : Int))) && (r10.2 == (0 : Int))) && ((r10.1.len : Int) == (3 : Int))) && (x20 == (8 : Int))) && (r12.2 == (180 : Int))) && (r18.2 == (0 : Int))) && ((r18.1.len : Int) == (2 : Int)))) (d := (some 79)) rfl (.yes 35 77 true ((((((((r8.1 == (1000 : Int)) && (r8.2 == (0 : Int))) && (r10.2 == (0 : Int))) && ((r10.1.len : Int) == (3 : Int))) && (x20 == (8 : Int))) && (r12.2 == (180 : Int))) && (r18.2 == (0 : Int))) && ((r18.1.len : Int) == (2 : Int))) rfl rfl rfl rfl) rfl (fun hg => q_indexAddr (s := r18.1) (i := (0 : Int)) rfl Try.underlying31 ok37 (gvb_yes hg) rfl (ha21 hg)) ?_
  refine ro_gval (g := ((((((((r8.1 == (1000 : Int)) && (r8.2 == (0 : Int))) && (r10.2 == (0 : Int))) && ((r10.1.len : Int) == (3 : Int))) && (x20 == (8 : Int))) && (r12.2 == (180 : Int))) && (r18.2 == (0 : Int))) && ((r18.1.len : Int) == (2 : Int)))) (d := (some 80)) rfl (.yes 35 77 true ((((((((r8.1 == (1000 : Int)) && (r8.2 == (0 : Int))) && (r10.2 == (0 : Int))) && ((r10.1.len : Int) == (3 : Int))) && (x20 == (8 : Int))) && (r12.2 == (180 : Int))) && (r18.2 == (0 : Int))) && ((r18.1.len : Int) == (2 : Int))) rfl rfl rfl rfl) rfl (fun hg => q_fieldAddr (a := a21) (off := 1) rfl Try.underlying37 rfl rfl ok2 (by decide) (gvb_yes hg)) ?_
  obtain ⟨x22, hx22, h⟩ := h
  refine ro_gval (g := ((((((((r8.1 == (1000 : Int)) && (r8.2 == (0 : Int))) && (r10.2 == (0 : Int))) && ((r10.1.len : Int) == (3 : Int))) && (x20 == (8 : Int))) && (r12.2 == (180 : Int))) && (r18.2 == (0 : Int))) && ((r18.1.len : Int) == (2 : Int)))) (d := (some 81)) rfl (.yes 35 77 true ((((((((r8.1 == (1000 : Int)) && (r8.2 == (0 : Int))) && (r10.2 == (0 : Int))) && ((r10.1.len : Int) == (3 : Int))) && (x20 == (8 : Int))) && (r12.2 == (180 : Int))) && (r18.2 == (0 : Int))) && ((r18.1.len : Int) == (2 : Int))) rfl rfl rfl rfl) rfl (fun hg => q_load (T := (tInt .i64)) (u := x22) (a := (a21.add 1)) rfl ok2 (gvb_yes hg) (hx22 hg)) ?_
  refine ro_gval (g := ((((((((r8.1 == (1000 : Int)) && (r8.2 == (0 : Int))) && (r10.2 == (0 : Int))) && ((r10.1.len : Int) == (3 : Int))) && (x20 == (8 : Int))) && (r12.2 == (180 : Int))) && (r18.2 == (0 : Int))) && ((r18.1.len : Int) == (2 : Int)))) (d := (some 82)) rfl (.yes 35 77 true ((((((((r8.1 == (1000 : Int)) && (r8.2 == (0 : Int))) && (r10.2 == (0 : Int))) && ((r10.1.len : Int) == (3 : Int))) && (x20 == (8 : Int))) && (r12.2 == (180 : Int))) && (r18.2 == (0 : Int))) && ((r18.1.len : Int) == (2 : Int))) rfl rfl rfl rfl) rfl (fun hg => q_eql (a := x22) (b := (-202 : Int)) rfl (gvb_yes hg) rfl) ?_
  refine ro_val (d := (some 83)) rfl (.free rfl) rfl (q_pickGT (a := ((((((((r8.1 == (1000 : Int)) && (r8.2 == (0 : Int))) && (r10.2 == (0 : Int))) && ((r10.1.len : Int) == (3 : Int))) && (x20 == (8 : Int))) && (r12.2 == (180 : Int))) && (r18.2 == (0 : Int))) && ((r18.1.len : Int) == (2 : Int)))) (b := (x22 == (-202 : Int))) rfl rfl rfl rfl) ?_
  refine ro_val (d := (some 84)) rfl (.free rfl) rfl (q_move (v := .bool ((((((((((r8.1 == (1000 : Int)) && (r8.2 == (0 : Int))) && (r10.2 == (0 : Int))) && ((r10.1.len : Int) == (3 : Int))) && (x20 == (8 : Int))) && (r12.2 == (180 : Int))) && (r18.2 == (0 : Int))) && ((r18.1.len : Int) == (2 : Int))) && (x22 == (-202 : Int))))) rfl rfl) ?_
  refine ro_gval (g := (((((((((r8.1 == (1000 : Int)) && (r8.2 == (0 : Int))) && (r10.2 == (0 : Int))) && ((r10.1.len : Int) == (3 : Int))) && (x20 == (8 : Int))) && (r12.2 == (180 : Int))) && (r18.2 == (0 : Int))) && ((r18.1.len : Int) == (2 : Int))) && (x22 == (-202 : Int)))) (d := (some 85)) rfl (.yes 42 84 true (((((((((r8.1 == (1000 : Int)) && (r8.2 == (0 : Int))) && (r10.2 == (0 : Int))) && ((r10.1.len : Int) == (3 : Int))) && (x20 == (8 : Int))) && (r12.2 == (180 : Int))) && (r18.2 == (0 : Int))) && ((r18.1.len : Int) == (2 : Int))) && (x22 == (-202 : Int))) rfl rfl rfl rfl) rfl (fun hg => q_move (v := tSlc.enc (r18.1)) rfl rfl) ?_
  obtain ⟨a23, ha23, h⟩ := h
  refine ro_gval (g := (((((((((r8.1 == (1000 : Int)) && (r8.2 == (0 : Int))) && (r10.2 == (0 : Int))) && ((r10.1.len : Int) == (3 : Int))) && (x20 == (8 : Int))) && (r12.2 == (180 : Int))) && (r18.2 == (0 : Int))) && ((r18.1.len : Int) == (2 : Int))) && (x22 == (-202 : Int)))) (d := (some 86)) rfl (.yes 42 84 true (((((((((r8.1 == (1000 : Int)) && (r8.2 == (0 : Int))) && (r10.2 == (0 : Int))) && ((r10.1.len : Int) == (3 : Int))) && (x20 == (8 : Int))) && (r12.2 == (180 : Int))) && (r18.2 == (0 : Int))) && ((r18.1.len : Int) == (2 : Int))) && (x22 == (-202 : Int))) rfl rfl rfl rfl) rfl (fun hg => q_indexAddr (s := r18.1) (i := (1 : Int)) rfl Try.underlying31 ok37 (gvb_yes hg) rfl (ha23 hg)) ?_
  refine ro_gval (g := (((((((((r8.1 == (1000 : Int)) && (r8.2 == (0 : Int))) && (r10.2 == (0 : Int))) && ((r10.1.len : Int) == (3 : Int))) && (x20 == (8 : Int))) && (r12.2 == (180 : Int))) && (r18.2 == (0 : Int))) && ((r18.1.len : Int) == (2 : Int))) && (x22 == (-202 : Int)))) (d := (some 87)) rfl (.yes 42 84 true (((((((((r8.1 == (1000 : Int)) && (r8.2 == (0 : Int))) && (r10.2 == (0 : Int))) && ((r10.1.len : Int) == (3 : Int))) && (x20 == (8 : Int))) && (r12.2 == (180 : Int))) && (r18.2 == (0 : Int))) && ((r18.1.len : Int) == (2 : Int))) && (x22 == (-202 : Int))) rfl rfl rfl rfl) rfl (fun hg => q_fieldAddr (a := a23) (off := 1) rfl Try.underlying37 rfl rfl ok2 (by decide) (gvb_yes hg)) ?_
  obtain ⟨x24, hx24, h⟩ := h
  refine ro_gval (g := (((((((((r8.1 == (1000 : Int)) && (r8.2 == (0 : Int))) && (r10.2 == (0 : Int))) && ((r10.1.len : Int) == (3 : Int))) && (x20 == (8 : Int))) && (r12.2 == (180 : Int))) && (r18.2 == (0 : Int))) && ((r18.1.len : Int) == (2 : Int))) && (x22 == (-202 : Int)))) (d := (some 88)) rfl (.yes 42 84 true (((((((((r8.1 == (1000 : Int)) && (r8.2 == (0 : Int))) && (r10.2 == (0 : Int))) && ((r10.1.len : Int) == (3 : Int))) && (x20 == (8 : Int))) && (r12.2 == (180 : Int))) && (r18.2 == (0 : Int))) && ((r18.1.len : Int) == (2 : Int))) && (x22 == (-202 : Int))) rfl rfl rfl rfl) rfl (fun hg => q_load (T := (tInt .i64)) (u := x24) (a := (a23.add 1)) rfl ok2 (gvb_yes hg) (hx24 hg)) ?_
  refine ro_gval (g := (((((((((r8.1 == (1000 : Int)) && (r8.2 == (0 : Int))) && (r10.2 == (0 : Int))) && ((r10.1.len : Int) == (3 : Int))) && (x20 == (8 : Int))) && (r12.2 == (180 : Int))) && (r18.2 == (0 : Int))) && ((r18.1.len : Int) == (2 : Int))) && (x22 == (-202 : Int)))) (d := (some 89)) rfl (.yes 42 84 true (((((((((r8.1 == (1000 : Int)) && (r8.2 == (0 : Int))) && (r10.2 == (0 : Int))) && ((r10.1.len : Int) == (3 : Int))) && (x20 == (8 : Int))) && (r12.2 == (180 : Int))) && (r18.2 == (0 : Int))) && ((r18.1.len : Int) == (2 : Int))) && (x22 == (-202 : Int))) rfl rfl rfl rfl) rfl (fun hg => q_eql (a := x24) (b := (200 : Int)) rfl (gvb_yes hg) rfl) ?_
  refine ro_val (d := (some 90)) rfl (.free rfl) rfl (q_pickGT (a := (((((((((r8.1 == (1000 : Int)) && (r8.2 == (0 : Int))) && (r10.2 == (0 : Int))) && ((r10.1.len : Int) == (3 : Int))) && (x20 == (8 : Int))) && (r12.2 == (180 : Int))) && (r18.2 == (0 : Int))) && ((r18.1.len : Int) == (2 : Int))) && (x22 == (-202 : Int)))) (b := (x24 == (200 : Int))) rfl rfl rfl rfl) ?_
  refine ro_val (d := (some 0)) rfl (.free rfl) rfl (q_assign (v := .bool (((((((((((r8.1 == (1000 : Int)) && (r8.2 == (0 : Int))) && (r10.2 == (0 : Int))) && ((r10.1.len : Int) == (3 : Int))) && (x20 == (8 : Int))) && (r12.2 == (180 : Int))) && (r18.2 == (0 : Int))) && ((r18.1.len : Int) == (2 : Int))) && (x22 == (-202 : Int))) && (x24 == (200 : Int))))) rfl rfl) ?_
  refine ro_nil ?_
  refine wp_ret ?_
  exact ret_ok rfl (.cons (.tmp (v := .bool (((((((((((r8.1 == (1000 : Int)) && (r8.2 == (0 : Int))) && (r10.2 == (0 : Int))) && ((r10.1.len : Int) == (3 : Int))) && (x20 == (8 : Int))) && (r12.2 == (180 : Int))) && (r18.2 == (0 : Int))) && ((r18.1.len : Int) == (2 : Int))) && (x22 == (-202 : Int))) && (x24 == (200 : Int))))) rfl) .nil) ⟨((((((((((r8.1 == (1000 : Int)) && (r8.2 == (0 : Int))) && (r10.2 == (0 : Int))) && ((r10.1.len : Int) == (3 : Int))) && (x20 == (8 : Int))) && (r12.2 == (180 : Int))) && (r18.2 == (0 : Int))) && ((r18.1.len : Int) == (2 : Int))) && (x22 == (-202 : Int))) && (x24 == (200 : Int))), rfl, h⟩

-- moiety/audit.Check
def F11 (at_1 : Int) (l_2 : Slc) (w : World) (R : (Int × Int) → World → Prop) : Prop :=
  cl Try.prog 20 [.int .i64 (at_1), tSlc.enc (l_2)] (tTup3 tMap (tInt .i64) (tInt .i64)) w fun r4 w3 =>
  if (r4.2.2 != (0 : Int)) = true then (
    R ((0 : Int), r4.2.2) w3
  ) else (
    R (r4.2.1, (0 : Int)) w3
  )
theorem F11_ok {at_1 : Int} {l_2 : Slc} {w : World} {R : (Int × Int) → World → Prop} (h : F11 at_1 l_2 w R) : cl Try.prog 11 [.int .i64 (at_1), tSlc.enc (l_2)] (tTup2 (tInt .i64) (tInt .i64)) w R := by
  unfold F11 at h
  refine calls_start 20 Try.func11 rfl rfl (Nat.le_of_ble_eq_true rfl) ?_
  refine wp_seq ?_
  refine wp_text [0, 1] rfl ?_
  refine ro_val (d := (some 4)) rfl (.free rfl) rfl (q_assign (v := .int .i64 ((0 : Int))) rfl rfl) ?_
  refine ro_val (d := (some 5)) rfl (.free rfl) rfl (q_assign (v := .int .i64 ((0 : Int))) rfl rfl) ?_
  refine ro_nil ?_
  refine wp_seq ?_
  refine wp_text [0, 1, 2, 3, 4, 5, 6, 7, 8, 9] rfl ?_
  refine ro_val (d := (some 10)) rfl (.free rfl) rfl (q_move (v := .int .i64 (at_1)) rfl rfl) ?_
  refine ro_val (d := (some 11)) rfl (.free rfl) rfl (q_move (v := tSlc.enc (l_2)) rfl rfl) ?_
  refine ro_wp rfl (.free rfl) (wp_cl (d := (some 12)) rfl (q_call (k := 20) (l := [.int .i64 (at_1), tSlc.enc (l_2)]) rfl ent20 rfl) h ?_)
  intro r4 w3 h
  refine ro_val (d := (some 9)) rfl (.free rfl) rfl (q_move (v := (tTup3 tMap (tInt .i64) (tInt .i64)).enc (r4)) rfl rfl) ?_
  refine ro_val (d := (some 13)) rfl (.free rfl) rfl (q_extract (vs := #[.map (r4.1), .int .i64 (r4.2.1), .int .i64 (r4.2.2)]) (v := .map (r4.1)) rfl rfl rfl) ?_
  refine ro_val (d := (some 14)) rfl (.free rfl) rfl (q_extract (vs := #[.map (r4.1), .int .i64 (r4.2.1), .int .i64 (r4.2.2)]) (v := .int .i64 (r4.2.1)) rfl rfl rfl) ?_
  refine ro_val (d := (some 15)) rfl (.free rfl) rfl (q_extract (vs := #[.map (r4.1), .int .i64 (r4.2.1), .int .i64 (r4.2.2)]) (v := .int .i64 (r4.2.2)) rfl rfl rfl) ?_
  refine ro_val (d := (some 6)) rfl (.free rfl) rfl (q_assign (v := .map (r4.1)) rfl rfl) ?_
  refine ro_val (d := (some 7)) rfl (.free rfl) rfl (q_assign (v := .int .i64 (r4.2.1)) rfl rfl) ?_
  refine ro_val (d := (some 8)) rfl (.free rfl) rfl (q_assign (v := .int .i64 (r4.2.2)) rfl rfl) ?_
  refine ro_nil ?_
  refine wp_seq ?_
  refine wp_seq ?_
  refine wp_text [0, 1] rfl ?_
  refine ro_val (d := (some 16)) rfl (.free rfl) rfl (q_move (v := .int .i64 (r4.2.2)) rfl rfl) ?_
  refine ro_val (d := (some 17)) rfl (.free rfl) rfl (q_neq (a := r4.2.2) (b := (0 : Int)) rfl rfl rfl) ?_
  refine ro_nil ?_
  refine wp_if (b := (r4.2.2 != (0 : Int))) rfl h (fun hb5 h => ?_) (fun hb5 h => ?_)
  · refine wp_seq ?_
    refine wp_text [0, 1, 2] rfl ?_
    refine ro_val (d := (some 18)) rfl (.free rfl) rfl (q_move (v := .int .i64 (r4.2.2)) rfl rfl) ?_
    refine ro_val (d := (some 4)) rfl (.free rfl) rfl (q_assign (v := .int .i64 ((0 : Int))) rfl rfl) ?_
    refine ro_val (d := (some 5)) rfl (.free rfl) rfl (q_assign (v := .int .i64 (r4.2.2)) rfl rfl) ?_
    refine ro_nil ?_
    refine wp_ret ?_
    exact ret_ok rfl (.cons (.tmp (v := .int .i64 ((0 : Int))) rfl) (.cons (.tmp (v := .int .i64 (r4.2.2)) rfl) .nil)) ⟨((0 : Int), r4.2.2), rfl, h⟩
  · refine wp_skip ?_
    refine wp_seq ?_
    refine wp_text [0, 1, 2] rfl ?_
    refine ro_val (d := (some 19)) rfl (.free rfl) rfl (q_move (v := .int .i64 (r4.2.1)) rfl rfl) ?_
    refine ro_val (d := (some 4)) rfl (.free rfl) rfl (q_assign (v := .int .i64 (r4.2.1)) rfl rfl) ?_
    refine ro_val (d := (some 5)) rfl (.free rfl) rfl (q_assign (v := .int .i64 ((0 : Int))) rfl rfl) ?_
    refine ro_nil ?_
    refine wp_ret ?_
    exact ret_ok rfl (.cons (.tmp (v := .int .i64 (r4.2.1)) rfl) (.cons (.tmp (v := .int .i64 ((0 : Int))) rfl) .nil)) ⟨(r4.2.1, (0 : Int)), rfl, h⟩

end Go.Proofs.Ytleehieomicicaa.Cf
