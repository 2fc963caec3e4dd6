/- Characteristic formulae of Go functions, and that they are. Printed by gen.py (own tool). -/
import Derived.Test.YtjhenlajkhckfaaTy
namespace Go.Proofs.Ytjhenlajkhckfaa.Cf
open Go
set_option maxRecDepth 100000
set_option maxHeartbeats 1000000
set_option linter.unusedVariables false
set_option linter.unusedSimpArgs false

-- moiety/moietylaw02.awake
def F12 (w : World) (R : Bool → World → Prop) : Prop :=
  nwS 36 T35 [(⟨(1 : Int), (300 : Int), (0 : Int), (0 : Nat), ([] : List UInt8)⟩ : S35), (⟨(4 : Int), (0 : Int), (0 : Int), (0 : Nat), ([104, 105] : List UInt8)⟩ : S35)] w fun a1 w2 =>
  cl Try.prog 13 [tSlc.enc ((⟨some a1, 2, 2⟩ : Slc))] (tTup2 tSlc (tInt .i64)) w2 fun r4 w3 =>
  nwS 5 (tInt .u8) [(2 : Int), (1 : Int)] w3 fun a5 w6 =>
  mkb (⟨some a5, 2, 2⟩ : Slc) w6 fun w7 =>
  cl Try.prog 18 [tSlc.enc ((⟨some a5, 2, 2⟩ : Slc))] (tTup3 tSlc (tInt .i64) (tInt .i64)) w7 fun r9 w8 =>
  nwS 5 (tInt .u8) [(1 : Int), (5 : Int), (4 : Int), (2 : Int), (104 : Int)] w8 fun a10 w11 =>
  mkb (⟨some a10, 5, 5⟩ : Slc) w11 fun w12 =>
  cl Try.prog 18 [tSlc.enc ((⟨some a10, 5, 5⟩ : Slc))] (tTup3 tSlc (tInt .i64) (tInt .i64)) w12 fun r14 w13 =>
  ex (fun x => (r4.2 == (0 : Int)) = true → (B2S r4.1 w13) x) fun s15 =>
  ex (fun x => ((((r4.2 == (0 : Int)) && (s15 == ([1, 172, 2, 4, 2, 104, 105] : List UInt8))) && (r9.2.2 == (0 : Int))) && ((r9.1.len : Int) == (1 : Int))) = true → (IxA r9.1 5 (0 : Int)) x) fun a16 =>
  ex (fun x => ((((r4.2 == (0 : Int)) && (s15 == ([1, 172, 2, 4, 2, 104, 105] : List UInt8))) && (r9.2.2 == (0 : Int))) && ((r9.1.len : Int) == (1 : Int))) = true → (RdAt (tInt .i64) (a16.add 2) w13) x) fun x17 =>
  R (((((((r4.2 == (0 : Int)) && (s15 == ([1, 172, 2, 4, 2, 104, 105] : List UInt8))) && (r9.2.2 == (0 : Int))) && ((r9.1.len : Int) == (1 : Int))) && (x17 == (-1 : Int))) && (r14.2.1 == (2 : Int))) && (r14.2.2 == (22 : Int))) w13
theorem F12_ok {w : World} {R : Bool → World → Prop} (h : F12 w R) : cl Try.prog 12 [] tBool w R := by
  unfold F12 at h
  refine calls_start 61 Try.func12 rfl rfl (Nat.le_of_ble_eq_true rfl) ?_
  refine wp_seq ?_
  refine wp_text [0] rfl ?_
  refine ro_val (d := (some 0)) rfl (.free rfl) rfl (q_assign (v := .bool (false)) rfl rfl) ?_
  refine ro_nil ?_
  refine wp_seq ?_
  refine wp_text [0, 1, 2, 3, 4, 5, 6, 7, 8] rfl ?_
  refine ro_val (d := (some 10)) rfl (.free rfl) rfl (q_build36_0_1 (v0 := (1 : Int)) (v1 := (300 : Int)) rfl rfl rfl) ?_
  refine ro_val (d := (some 11)) rfl (.free rfl) rfl (q_build36_0_4 (v0 := (4 : Int)) (v4 := ([104, 105] : List UInt8)) rfl rfl rfl) ?_
  obtain ⟨a1, w2, ha1, hw2, h⟩ := nwS_open h
  refine ro_val (d := (some 12)) rfl (.free rfl) rfl (q_rowOf (T := T35) (xs := [(⟨(1 : Int), (300 : Int), (0 : Int), (0 : Nat), ([] : List UInt8)⟩ : S35), (⟨(4 : Int), (0 : Int), (0 : Int), (0 : Nat), ([104, 105] : List UInt8)⟩ : S35)]) rfl Try.underlying22 ok36 inf36 rfl (by decide) (by decide) rfl ha1 hw2) ?_
  refine ro_wp rfl (.free rfl) (wp_cl (d := (some 13)) rfl (q_call (k := 13) (l := [tSlc.enc ((⟨some a1, 2, 2⟩ : Slc))]) rfl ent13 rfl) h ?_)
  intro r4 w3 h
  refine ro_val (d := (some 9)) rfl (.free rfl) rfl (q_move (v := (tTup2 tSlc (tInt .i64)).enc (r4)) rfl rfl) ?_
  refine ro_val (d := (some 14)) rfl (.free rfl) rfl (q_extract (vs := #[tSlc.enc (r4.1), .int .i64 (r4.2)]) (v := tSlc.enc (r4.1)) rfl rfl rfl) ?_
  refine ro_val (d := (some 15)) rfl (.free rfl) rfl (q_extract (vs := #[tSlc.enc (r4.1), .int .i64 (r4.2)]) (v := .int .i64 (r4.2)) rfl rfl rfl) ?_
  refine ro_val (d := (some 1)) rfl (.free rfl) rfl (q_assign (v := tSlc.enc (r4.1)) rfl rfl) ?_
  refine ro_val (d := (some 2)) rfl (.free rfl) rfl (q_assign (v := .int .i64 (r4.2)) rfl rfl) ?_
  refine ro_nil ?_
  refine wp_seq ?_
  refine wp_text [0, 1, 2, 3, 4, 5, 6, 7, 8, 9] rfl ?_
  obtain ⟨a5, w6, ha5, hw6, h⟩ := nwS_open h
  refine ro_val (d := (some 17)) rfl (.free rfl) rfl (q_rowOf (T := (tInt .u8)) (xs := [(2 : Int), (1 : Int)]) rfl Try.underlying25 ok5 inf5 rfl (by decide) (by decide) rfl ha5 hw6) ?_
  refine ro_wp rfl (.free rfl) (wp_mkb (s := (⟨some a5, 2, 2⟩ : Slc)) (d := (some 18)) rfl rfl Try.underlying25 Try.underlying5 rfl h ?_)
  intro w7 h
  refine ro_wp rfl (.free rfl) (wp_cl (d := (some 19)) rfl (q_call (k := 18) (l := [tSlc.enc ((⟨some a5, 2, 2⟩ : Slc))]) rfl ent18 rfl) h ?_)
  intro r9 w8 h
  refine ro_val (d := (some 16)) rfl (.free rfl) rfl (q_move (v := (tTup3 tSlc (tInt .i64) (tInt .i64)).enc (r9)) rfl rfl) ?_
  refine ro_val (d := (some 20)) rfl (.free rfl) rfl (q_extract (vs := #[tSlc.enc (r9.1), .int .i64 (r9.2.1), .int .i64 (r9.2.2)]) (v := tSlc.enc (r9.1)) rfl rfl rfl) ?_
  refine ro_val (d := (some 21)) rfl (.free rfl) rfl (q_extract (vs := #[tSlc.enc (r9.1), .int .i64 (r9.2.1), .int .i64 (r9.2.2)]) (v := .int .i64 (r9.2.1)) rfl rfl rfl) ?_
  refine ro_val (d := (some 22)) rfl (.free rfl) rfl (q_extract (vs := #[tSlc.enc (r9.1), .int .i64 (r9.2.1), .int .i64 (r9.2.2)]) (v := .int .i64 (r9.2.2)) rfl rfl rfl) ?_
  refine ro_val (d := (some 3)) rfl (.free rfl) rfl (q_assign (v := tSlc.enc (r9.1)) rfl rfl) ?_
  refine ro_val (d := (some 4)) rfl (.free rfl) rfl (q_assign (v := .int .i64 (r9.2.1)) rfl rfl) ?_
  refine ro_val (d := (some 5)) rfl (.free rfl) rfl (q_assign (v := .int .i64 (r9.2.2)) rfl rfl) ?_
  refine ro_nil ?_
  refine wp_seq ?_
  refine wp_text [0, 1, 2, 3, 4, 5, 6, 7, 8, 9] rfl ?_
  obtain ⟨a10, w11, ha10, hw11, h⟩ := nwS_open h
  refine ro_val (d := (some 24)) rfl (.free rfl) rfl (q_rowOf (T := (tInt .u8)) (xs := [(1 : Int), (5 : Int), (4 : Int), (2 : Int), (104 : Int)]) rfl Try.underlying25 ok5 inf5 rfl (by decide) (by decide) rfl ha10 hw11) ?_
  refine ro_wp rfl (.free rfl) (wp_mkb (s := (⟨some a10, 5, 5⟩ : Slc)) (d := (some 25)) rfl rfl Try.underlying25 Try.underlying5 rfl h ?_)
  intro w12 h
  refine ro_wp rfl (.free rfl) (wp_cl (d := (some 26)) rfl (q_call (k := 18) (l := [tSlc.enc ((⟨some a10, 5, 5⟩ : Slc))]) rfl ent18 rfl) h ?_)
  intro r14 w13 h
  refine ro_val (d := (some 23)) rfl (.free rfl) rfl (q_move (v := (tTup3 tSlc (tInt .i64) (tInt .i64)).enc (r14)) rfl rfl) ?_
  refine ro_val (d := (some 27)) rfl (.free rfl) rfl (q_extract (vs := #[tSlc.enc (r14.1), .int .i64 (r14.2.1), .int .i64 (r14.2.2)]) (v := tSlc.enc (r14.1)) rfl rfl rfl) ?_
  refine ro_val (d := (some 28)) rfl (.free rfl) rfl (q_extract (vs := #[tSlc.enc (r14.1), .int .i64 (r14.2.1), .int .i64 (r14.2.2)]) (v := .int .i64 (r14.2.1)) rfl rfl rfl) ?_
  refine ro_val (d := (some 29)) rfl (.free rfl) rfl (q_extract (vs := #[tSlc.enc (r14.1), .int .i64 (r14.2.1), .int .i64 (r14.2.2)]) (v := .int .i64 (r14.2.2)) rfl rfl rfl) ?_
  refine ro_val (d := (some 6)) rfl (.free rfl) rfl (q_assign (v := tSlc.enc (r14.1)) rfl rfl) ?_
  refine ro_val (d := (some 7)) rfl (.free rfl) rfl (q_assign (v := .int .i64 (r14.2.1)) rfl rfl) ?_
  refine ro_val (d := (some 8)) rfl (.free rfl) rfl (q_assign (v := .int .i64 (r14.2.2)) rfl rfl) ?_
  refine ro_nil ?_
  refine wp_seq ?_
  refine wp_text [0, 1, 2, 3, 4, 5, 6, 7, 8, 9, 10, 11, 12, 13, 14, 15, 16, 17, 18, 19, 20, 21, 22, 23, 24, 25, 26, 27, 28, 29, 30, 31] rfl ?_
  refine ro_val (d := (some 30)) rfl (.free rfl) rfl (q_move (v := .int .i64 (r4.2)) rfl rfl) ?_
  refine ro_val (d := (some 31)) rfl (.free rfl) rfl (q_eql (a := r4.2) (b := (0 : Int)) rfl rfl rfl) ?_
  refine ro_val (d := (some 32)) rfl (.free rfl) rfl (q_move (v := .bool ((r4.2 == (0 : Int)))) rfl rfl) ?_
  refine ro_gval (g := (r4.2 == (0 : Int))) (d := (some 33)) rfl (.yes 2 32 true (r4.2 == (0 : Int)) rfl rfl rfl rfl) rfl (fun hg => q_move (v := tSlc.enc (r4.1)) rfl rfl) ?_
  obtain ⟨s15, hs15, h⟩ := h
  refine ro_gval (g := (r4.2 == (0 : Int))) (d := (some 34)) rfl (.yes 2 32 true (r4.2 == (0 : Int)) rfl rfl rfl rfl) rfl (fun hg => q_b2s (b := r4.1) (r := s15) rfl Try.underlying25 Try.underlying5 Try.underlying9 (gvb_yes hg) (hs15 hg)) ?_
  refine ro_gval (g := (r4.2 == (0 : Int))) (d := (some 35)) rfl (.yes 2 32 true (r4.2 == (0 : Int)) rfl rfl rfl rfl) rfl (fun hg => q_eqS (a := s15) (b := ([1, 172, 2, 4, 2, 104, 105] : List UInt8)) rfl (gvb_yes hg) rfl) ?_
  refine ro_val (d := (some 36)) rfl (.free rfl) rfl (q_pickGT (a := (r4.2 == (0 : Int))) (b := (s15 == ([1, 172, 2, 4, 2, 104, 105] : List UInt8))) rfl rfl rfl rfl) ?_
  refine ro_val (d := (some 37)) rfl (.free rfl) rfl (q_move (v := .bool (((r4.2 == (0 : Int)) && (s15 == ([1, 172, 2, 4, 2, 104, 105] : List UInt8))))) rfl rfl) ?_
  refine ro_gval (g := ((r4.2 == (0 : Int)) && (s15 == ([1, 172, 2, 4, 2, 104, 105] : List UInt8)))) (d := (some 38)) rfl (.yes 7 37 true ((r4.2 == (0 : Int)) && (s15 == ([1, 172, 2, 4, 2, 104, 105] : List UInt8))) rfl rfl rfl rfl) rfl (fun hg => q_move (v := .int .i64 (r9.2.2)) rfl rfl) ?_
  refine ro_gval (g := ((r4.2 == (0 : Int)) && (s15 == ([1, 172, 2, 4, 2, 104, 105] : List UInt8)))) (d := (some 39)) rfl (.yes 7 37 true ((r4.2 == (0 : Int)) && (s15 == ([1, 172, 2, 4, 2, 104, 105] : List UInt8))) rfl rfl rfl rfl) rfl (fun hg => q_eql (a := r9.2.2) (b := (0 : Int)) rfl (gvb_yes hg) rfl) ?_
  refine ro_val (d := (some 40)) rfl (.free rfl) rfl (q_pickGT (a := ((r4.2 == (0 : Int)) && (s15 == ([1, 172, 2, 4, 2, 104, 105] : List UInt8)))) (b := (r9.2.2 == (0 : Int))) rfl rfl rfl rfl) ?_
  refine ro_val (d := (some 41)) rfl (.free rfl) rfl (q_move (v := .bool ((((r4.2 == (0 : Int)) && (s15 == ([1, 172, 2, 4, 2, 104, 105] : List UInt8))) && (r9.2.2 == (0 : Int))))) rfl rfl) ?_
  refine ro_gval (g := (((r4.2 == (0 : Int)) && (s15 == ([1, 172, 2, 4, 2, 104, 105] : List UInt8))) && (r9.2.2 == (0 : Int)))) (d := (some 42)) rfl (.yes 11 41 true (((r4.2 == (0 : Int)) && (s15 == ([1, 172, 2, 4, 2, 104, 105] : List UInt8))) && (r9.2.2 == (0 : Int))) rfl rfl rfl rfl) rfl (fun hg => q_move (v := tSlc.enc (r9.1)) rfl rfl) ?_
  refine ro_gval (g := (((r4.2 == (0 : Int)) && (s15 == ([1, 172, 2, 4, 2, 104, 105] : List UInt8))) && (r9.2.2 == (0 : Int)))) (d := (some 43)) rfl (.yes 11 41 true (((r4.2 == (0 : Int)) && (s15 == ([1, 172, 2, 4, 2, 104, 105] : List UInt8))) && (r9.2.2 == (0 : Int))) rfl rfl rfl rfl) rfl (fun hg => q_len (s := r9.1) rfl Try.underlying22 (gvb_yes hg)) ?_
  refine ro_gval (g := (((r4.2 == (0 : Int)) && (s15 == ([1, 172, 2, 4, 2, 104, 105] : List UInt8))) && (r9.2.2 == (0 : Int)))) (d := (some 44)) rfl (.yes 11 41 true (((r4.2 == (0 : Int)) && (s15 == ([1, 172, 2, 4, 2, 104, 105] : List UInt8))) && (r9.2.2 == (0 : Int))) rfl rfl rfl rfl) rfl (fun hg => q_eql (a := (r9.1.len : Int)) (b := (1 : Int)) rfl (gvb_yes hg) rfl) ?_
  refine ro_val (d := (some 45)) rfl (.free rfl) rfl (q_pickGT (a := (((r4.2 == (0 : Int)) && (s15 == ([1, 172, 2, 4, 2, 104, 105] : List UInt8))) && (r9.2.2 == (0 : Int)))) (b := ((r9.1.len : Int) == (1 : Int))) rfl rfl rfl rfl) ?_
  refine ro_val (d := (some 46)) rfl (.free rfl) rfl (q_move (v := .bool (((((r4.2 == (0 : Int)) && (s15 == ([1, 172, 2, 4, 2, 104, 105] : List UInt8))) && (r9.2.2 == (0 : Int))) && ((r9.1.len : Int) == (1 : Int))))) rfl rfl) ?_
  refine ro_gval (g := ((((r4.2 == (0 : Int)) && (s15 == ([1, 172, 2, 4, 2, 104, 105] : List UInt8))) && (r9.2.2 == (0 : Int))) && ((r9.1.len : Int) == (1 : Int)))) (d := (some 47)) rfl (.yes 16 46 true ((((r4.2 == (0 : Int)) && (s15 == ([1, 172, 2, 4, 2, 104, 105] : List UInt8))) && (r9.2.2 == (0 : Int))) && ((r9.1.len : Int) == (1 : Int))) rfl rfl rfl rfl) rfl (fun hg => q_move (v := tSlc.enc (r9.1)) rfl rfl) ?_
  obtain ⟨a16, ha16, h⟩ := h
  refine ro_gval (g := ((((r4.2 == (0 : Int)) && (s15 == ([1, 172, 2, 4, 2, 104, 105] : List UInt8))) && (r9.2.2 == (0 : Int))) && ((r9.1.len : Int) == (1 : Int)))) (d := (some 48)) rfl (.yes 16 46 true ((((r4.2 == (0 : Int)) && (s15 == ([1, 172, 2, 4, 2, 104, 105] : List UInt8))) && (r9.2.2 == (0 : Int))) && ((r9.1.len : Int) == (1 : Int))) rfl rfl rfl rfl) rfl (fun hg => q_indexAddr (s := r9.1) (i := (0 : Int)) rfl Try.underlying22 ok36 (gvb_yes hg) rfl (ha16 hg)) ?_
  refine ro_gval (g := ((((r4.2 == (0 : Int)) && (s15 == ([1, 172, 2, 4, 2, 104, 105] : List UInt8))) && (r9.2.2 == (0 : Int))) && ((r9.1.len : Int) == (1 : Int)))) (d := (some 49)) rfl (.yes 16 46 true ((((r4.2 == (0 : Int)) && (s15 == ([1, 172, 2, 4, 2, 104, 105] : List UInt8))) && (r9.2.2 == (0 : Int))) && ((r9.1.len : Int) == (1 : Int))) rfl rfl rfl rfl) rfl (fun hg => q_fieldAddr (a := a16) (off := 2) rfl Try.underlying36 rfl rfl ok2 (by decide) (gvb_yes hg)) ?_
  obtain ⟨x17, hx17, h⟩ := h
  refine ro_gval (g := ((((r4.2 == (0 : Int)) && (s15 == ([1, 172, 2, 4, 2, 104, 105] : List UInt8))) && (r9.2.2 == (0 : Int))) && ((r9.1.len : Int) == (1 : Int)))) (d := (some 50)) rfl (.yes 16 46 true ((((r4.2 == (0 : Int)) && (s15 == ([1, 172, 2, 4, 2, 104, 105] : List UInt8))) && (r9.2.2 == (0 : Int))) && ((r9.1.len : Int) == (1 : Int))) rfl rfl rfl rfl) rfl (fun hg => q_load (T := (tInt .i64)) (u := x17) (a := (a16.add 2)) rfl ok2 (gvb_yes hg) (hx17 hg)) ?_
  refine ro_gval (g := ((((r4.2 == (0 : Int)) && (s15 == ([1, 172, 2, 4, 2, 104, 105] : List UInt8))) && (r9.2.2 == (0 : Int))) && ((r9.1.len : Int) == (1 : Int)))) (d := (some 51)) rfl (.yes 16 46 true ((((r4.2 == (0 : Int)) && (s15 == ([1, 172, 2, 4, 2, 104, 105] : List UInt8))) && (r9.2.2 == (0 : Int))) && ((r9.1.len : Int) == (1 : Int))) rfl rfl rfl rfl) rfl (fun hg => q_eql (a := x17) (b := (-1 : Int)) rfl (gvb_yes hg) rfl) ?_
  refine ro_val (d := (some 52)) rfl (.free rfl) rfl (q_pickGT (a := ((((r4.2 == (0 : Int)) && (s15 == ([1, 172, 2, 4, 2, 104, 105] : List UInt8))) && (r9.2.2 == (0 : Int))) && ((r9.1.len : Int) == (1 : Int)))) (b := (x17 == (-1 : Int))) rfl rfl rfl rfl) ?_
  refine ro_val (d := (some 53)) rfl (.free rfl) rfl (q_move (v := .bool ((((((r4.2 == (0 : Int)) && (s15 == ([1, 172, 2, 4, 2, 104, 105] : List UInt8))) && (r9.2.2 == (0 : Int))) && ((r9.1.len : Int) == (1 : Int))) && (x17 == (-1 : Int))))) rfl rfl) ?_
  refine ro_gval (g := (((((r4.2 == (0 : Int)) && (s15 == ([1, 172, 2, 4, 2, 104, 105] : List UInt8))) && (r9.2.2 == (0 : Int))) && ((r9.1.len : Int) == (1 : Int))) && (x17 == (-1 : Int)))) (d := (some 54)) rfl (.yes 23 53 true (((((r4.2 == (0 : Int)) && (s15 == ([1, 172, 2, 4, 2, 104, 105] : List UInt8))) && (r9.2.2 == (0 : Int))) && ((r9.1.len : Int) == (1 : Int))) && (x17 == (-1 : Int))) rfl rfl rfl rfl) rfl (fun hg => q_move (v := .int .i64 (r14.2.1)) rfl rfl) ?_
  refine ro_gval (g := (((((r4.2 == (0 : Int)) && (s15 == ([1, 172, 2, 4, 2, 104, 105] : List UInt8))) && (r9.2.2 == (0 : Int))) && ((r9.1.len : Int) == (1 : Int))) && (x17 == (-1 : Int)))) (d := (some 55)) rfl (.yes 23 53 true (((((r4.2 == (0 : Int)) && (s15 == ([1, 172, 2, 4, 2, 104, 105] : List UInt8))) && (r9.2.2 == (0 : Int))) && ((r9.1.len : Int) == (1 : Int))) && (x17 == (-1 : Int))) rfl rfl rfl rfl) rfl (fun hg => q_eql (a := r14.2.1) (b := (2 : Int)) rfl (gvb_yes hg) rfl) ?_
  refine ro_val (d := (some 56)) rfl (.free rfl) rfl (q_pickGT (a := (((((r4.2 == (0 : Int)) && (s15 == ([1, 172, 2, 4, 2, 104, 105] : List UInt8))) && (r9.2.2 == (0 : Int))) && ((r9.1.len : Int) == (1 : Int))) && (x17 == (-1 : Int)))) (b := (r14.2.1 == (2 : Int))) rfl rfl rfl rfl) ?_
  refine ro_val (d := (some 57)) rfl (.free rfl) rfl (q_move (v := .bool (((((((r4.2 == (0 : Int)) && (s15 == ([1, 172, 2, 4, 2, 104, 105] : List UInt8))) && (r9.2.2 == (0 : Int))) && ((r9.1.len : Int) == (1 : Int))) && (x17 == (-1 : Int))) && (r14.2.1 == (2 : Int))))) rfl rfl) ?_
  refine ro_gval (g := ((((((r4.2 == (0 : Int)) && (s15 == ([1, 172, 2, 4, 2, 104, 105] : List UInt8))) && (r9.2.2 == (0 : Int))) && ((r9.1.len : Int) == (1 : Int))) && (x17 == (-1 : Int))) && (r14.2.1 == (2 : Int)))) (d := (some 58)) rfl (.yes 27 57 true ((((((r4.2 == (0 : Int)) && (s15 == ([1, 172, 2, 4, 2, 104, 105] : List UInt8))) && (r9.2.2 == (0 : Int))) && ((r9.1.len : Int) == (1 : Int))) && (x17 == (-1 : Int))) && (r14.2.1 == (2 : Int))) rfl rfl rfl rfl) rfl (fun hg => q_move (v := .int .i64 (r14.2.2)) rfl rfl) ?_
  refine ro_gval (g := ((((((r4.2 == (0 : Int)) && (s15 == ([1, 172, 2, 4, 2, 104, 105] : List UInt8))) && (r9.2.2 == (0 : Int))) && ((r9.1.len : Int) == (1 : Int))) && (x17 == (-1 : Int))) && (r14.2.1 == (2 : Int)))) (d := (some 59)) rfl (.yes 27 57 true ((((((r4.2 == (0 : Int)) && (s15 == ([1, 172, 2, 4, 2, 104, 105] : List UInt8))) && (r9.2.2 == (0 : Int))) && ((r9.1.len : Int) == (1 : Int))) && (x17 == (-1 : Int))) && (r14.2.1 == (2 : Int))) rfl rfl rfl rfl) rfl (fun hg => q_eql (a := r14.2.2) (b := (22 : Int)) rfl (gvb_yes hg) rfl) ?_
  refine ro_val (d := (some 60)) rfl (.free rfl) rfl (q_pickGT (a := ((((((r4.2 == (0 : Int)) && (s15 == ([1, 172, 2, 4, 2, 104, 105] : List UInt8))) && (r9.2.2 == (0 : Int))) && ((r9.1.len : Int) == (1 : Int))) && (x17 == (-1 : Int))) && (r14.2.1 == (2 : Int)))) (b := (r14.2.2 == (22 : Int))) rfl rfl rfl rfl) ?_
  refine ro_val (d := (some 0)) rfl (.free rfl) rfl (q_assign (v := .bool ((((((((r4.2 == (0 : Int)) && (s15 == ([1, 172, 2, 4, 2, 104, 105] : List UInt8))) && (r9.2.2 == (0 : Int))) && ((r9.1.len : Int) == (1 : Int))) && (x17 == (-1 : Int))) && (r14.2.1 == (2 : Int))) && (r14.2.2 == (22 : Int))))) rfl rfl) ?_
  refine ro_nil ?_
  refine wp_ret ?_
  exact ret_ok rfl (.cons (.tmp (v := .bool ((((((((r4.2 == (0 : Int)) && (s15 == ([1, 172, 2, 4, 2, 104, 105] : List UInt8))) && (r9.2.2 == (0 : Int))) && ((r9.1.len : Int) == (1 : Int))) && (x17 == (-1 : Int))) && (r14.2.1 == (2 : Int))) && (r14.2.2 == (22 : Int))))) rfl) .nil) ⟨(((((((r4.2 == (0 : Int)) && (s15 == ([1, 172, 2, 4, 2, 104, 105] : List UInt8))) && (r9.2.2 == (0 : Int))) && ((r9.1.len : Int) == (1 : Int))) && (x17 == (-1 : Int))) && (r14.2.1 == (2 : Int))) && (r14.2.2 == (22 : Int))), rfl, h⟩

-- moiety/wire.Pack
def F13_l1 (l_1 : Slc) (b_2 : Slc) (t_3 : Int) (w4 : World) (K5 : Slc × Int → World → Prop) (R : (Slc × Int) → World → Prop) : Prop :=
  if (decide (t_3 < (l_1.len : Int))) = true then (
    ex (IxA l_1 5 t_3) fun a6 =>
    ex (RdAt T35 a6 w4) fun x7 =>
    nw 36 T35 Z35 w4 fun a8 w9 =>
    st T35 a8 x7 w9 fun w10 =>
    ex (RdAt T35 a8 w10) fun x11 =>
    cl Try.prog 16 [T35.enc (x11)] (tInt .i64) w10 fun r13 w12 =>
    if (r13 != (0 : Int)) = true then (
      R ((⟨none, 0, 0⟩ : Slc), r13) w12
    ) else (
      ex (RdAt T35 a8 w12) fun x14 =>
      cl Try.prog 20 [tSlc.enc (b_2), T35.enc (x14)] tSlc w12 fun r16 w15 =>
      K5 (r16, (IntKind.i64.wrap (t_3 + (1 : Int)))) w15
    )
  ) else (
    R (b_2, (0 : Int)) w4
  )
def F13 (l_1 : Slc) (w : World) (R : (Slc × Int) → World → Prop) : Prop :=
  if (decide ((l_1.len : Int) > (1000 : Int))) = true then (
    R ((⟨none, 0, 0⟩ : Slc), (20 : Int)) w
  ) else (
    lp (fun (s : Slc × Int) w K => F13_l1 l_1 s.1 s.2 w K R) ((⟨none, 0, 0⟩ : Slc), (0 : Int)) w
  )
theorem F13_ok {l_1 : Slc} {w : World} {R : (Slc × Int) → World → Prop} (h : F13 l_1 w R) : cl Try.prog 13 [tSlc.enc (l_1)] (tTup2 tSlc (tInt .i64)) w R := by
  unfold F13 at h
  refine calls_start 27 Try.func13 rfl rfl (Nat.le_of_ble_eq_true rfl) ?_
  refine wp_seq ?_
  refine wp_text [0, 1] rfl ?_
  refine ro_val (d := (some 2)) rfl (.free rfl) rfl (q_assign (v := tSlc.enc ((⟨none, 0, 0⟩ : Slc))) rfl rfl) ?_
  refine ro_val (d := (some 3)) rfl (.free rfl) rfl (q_assign (v := .int .i64 ((0 : Int))) rfl rfl) ?_
  refine ro_nil ?_
  refine wp_seq ?_
  refine wp_seq ?_
  refine wp_text [0, 1, 2] rfl ?_
  refine ro_val (d := (some 8)) rfl (.free rfl) rfl (q_move (v := tSlc.enc (l_1)) rfl rfl) ?_
  refine ro_val (d := (some 9)) rfl (.free rfl) rfl (q_len (s := l_1) rfl Try.underlying22 rfl) ?_
  refine ro_val (d := (some 10)) rfl (.free rfl) rfl (q_gtr (a := (l_1.len : Int)) (b := (1000 : Int)) rfl rfl rfl) ?_
  refine ro_nil ?_
  refine wp_if (b := (decide ((l_1.len : Int) > (1000 : Int)))) rfl h (fun hb19 h => ?_) (fun hb19 h => ?_)
  · refine wp_seq ?_
    refine wp_text [0, 1] rfl ?_
    refine ro_val (d := (some 2)) rfl (.free rfl) rfl (q_assign (v := tSlc.enc ((⟨none, 0, 0⟩ : Slc))) rfl rfl) ?_
    refine ro_val (d := (some 3)) rfl (.free rfl) rfl (q_assign (v := .int .i64 ((20 : Int))) rfl rfl) ?_
    refine ro_nil ?_
    refine wp_ret ?_
    exact ret_ok rfl (.cons (.tmp (v := tSlc.enc ((⟨none, 0, 0⟩ : Slc))) rfl) (.cons (.tmp (v := .int .i64 ((20 : Int))) rfl) .nil)) ⟨((⟨none, 0, 0⟩ : Slc), (20 : Int)), rfl, h⟩
  · refine wp_skip ?_
    refine wp_seq ?_
    refine wp_text [0] rfl ?_
    refine ro_val (d := (some 4)) rfl (.free rfl) rfl (q_assign (v := tSlc.enc ((⟨none, 0, 0⟩ : Slc))) rfl rfl) ?_
    refine ro_nil ?_
    refine wp_seq ?_
    refine wp_seq ?_
    refine wp_text [0, 1, 2] rfl ?_
    refine ro_val (d := (some 11)) rfl (.free rfl) rfl (q_move (v := tSlc.enc (l_1)) rfl rfl) ?_
    refine ro_val (d := (some 12)) rfl (.free rfl) rfl (q_len (s := l_1) rfl Try.underlying22 rfl) ?_
    refine ro_val (d := (some 13)) rfl (.free rfl) rfl (q_move (v := .int .i64 ((0 : Int))) rfl rfl) ?_
    refine ro_nil ?_
    refine wp_block ?_
    refine loop_at (σ := Slc × Int) (fr := fun g (s : Slc × Int) => upd (upd (upd (upd (g) 11 (tSlc.enc (l_1))) 12 (.int .i64 ((l_1.len : Int)))) 4 (tSlc.enc (s.1))) 13 (.int .i64 (s.2))) (s0 := ((⟨none, 0, 0⟩ : Slc), (0 : Int))) (upd_step (upd_step (upd_step (upd_step rfl rfl) rfl) rfl) rfl) h ?_
    rintro ⟨b_2, t_3⟩ g w4 K5 h
    unfold F13_l1 at h
    refine wp_seq ?_
    refine wp_text [0] rfl ?_
    refine ro_val (d := (some 14)) rfl (.free rfl) rfl (q_lss (a := t_3) (b := (l_1.len : Int)) rfl rfl rfl) ?_
    refine ro_nil ?_
    refine wp_seq ?_
    refine wp_if (b := (decide (t_3 < (l_1.len : Int)))) rfl h (fun hb18 h => ?_) (fun hb18 h => ?_)
    · refine wp_skip ?_
      refine wp_seq ?_
      refine wp_block ?_
      refine wp_seq ?_
      refine wp_text [0, 1, 2, 3] rfl ?_
      obtain ⟨a6, ha6, h⟩ := h
      refine ro_val (d := (some 15)) rfl (.free rfl) rfl (q_indexAddr (s := l_1) (i := t_3) rfl Try.underlying22 ok36 rfl rfl ha6) ?_
      obtain ⟨x7, hx7, h⟩ := h
      refine ro_val (d := (some 16)) rfl (.free rfl) rfl (q_load (T := T35) (u := x7) (a := a6) rfl ok36 rfl hx7) ?_
      obtain ⟨a8, w9, ha8, hw9, h⟩ := nw_open h
      refine ro_val (d := (some 6)) rfl (.free rfl) rfl (q_alloc (u := Z35) rfl ok36 inf36 ha8 hw9) ?_
      obtain ⟨w10, hw10, hrw10, h⟩ := st_open h
      refine ro_skip (d := none) rfl (.free rfl) rfl (q_store (T := T35) (u := x7) (a := a8) rfl ok36 rfl rfl hrw10 hw10) ?_
      refine ro_nil ?_
      refine wp_seq ?_
      refine wp_seq ?_
      refine wp_text [0, 1, 2] rfl ?_
      obtain ⟨x11, hx11, h⟩ := h
      refine ro_val (d := (some 17)) rfl (.free rfl) rfl (q_load (T := T35) (u := x11) (a := a8) rfl ok36 rfl hx11) ?_
      refine ro_wp rfl (.free rfl) (wp_cl (d := (some 18)) rfl (q_call (k := 16) (l := [T35.enc (x11)]) rfl ent16 rfl) h ?_)
      intro r13 w12 h
      refine ro_val (d := (some 7)) rfl (.free rfl) rfl (q_assign (v := .int .i64 (r13)) rfl rfl) ?_
      refine ro_nil ?_
      refine wp_seq ?_
      refine wp_text [0, 1] rfl ?_
      refine ro_val (d := (some 19)) rfl (.free rfl) rfl (q_move (v := .int .i64 (r13)) rfl rfl) ?_
      refine ro_val (d := (some 20)) rfl (.free rfl) rfl (q_neq (a := r13) (b := (0 : Int)) rfl rfl rfl) ?_
      refine ro_nil ?_
      refine wp_if (b := (r13 != (0 : Int))) rfl h (fun hb17 h => ?_) (fun hb17 h => ?_)
      · refine wp_seq ?_
        refine wp_text [0, 1, 2] rfl ?_
        refine ro_val (d := (some 21)) rfl (.free rfl) rfl (q_move (v := .int .i64 (r13)) rfl rfl) ?_
        refine ro_val (d := (some 2)) rfl (.free rfl) rfl (q_assign (v := tSlc.enc ((⟨none, 0, 0⟩ : Slc))) rfl rfl) ?_
        refine ro_val (d := (some 3)) rfl (.free rfl) rfl (q_assign (v := .int .i64 (r13)) rfl rfl) ?_
        refine ro_nil ?_
        refine wp_ret ?_
        exact ret_ok rfl (.cons (.tmp (v := tSlc.enc ((⟨none, 0, 0⟩ : Slc))) rfl) (.cons (.tmp (v := .int .i64 (r13)) rfl) .nil)) ⟨((⟨none, 0, 0⟩ : Slc), r13), rfl, h⟩
      · refine wp_skip ?_
        refine wp_text [0, 1, 2, 3] rfl ?_
        refine ro_val (d := (some 22)) rfl (.free rfl) rfl (q_move (v := tSlc.enc (b_2)) rfl rfl) ?_
        obtain ⟨x14, hx14, h⟩ := h
        refine ro_val (d := (some 23)) rfl (.free rfl) rfl (q_load (T := T35) (u := x14) (a := a8) rfl ok36 rfl hx14) ?_
        refine ro_wp rfl (.free rfl) (wp_cl (d := (some 24)) rfl (q_call (k := 20) (l := [tSlc.enc (b_2), T35.enc (x14)]) rfl ent20 rfl) h ?_)
        intro r16 w15 h
        refine ro_val (d := (some 4)) rfl (.free rfl) rfl (q_assign (v := tSlc.enc (r16)) rfl rfl) ?_
        refine ro_nil ?_
        refine wp_text [0, 1] rfl ?_
        refine ro_val (d := (some 25)) rfl (.free rfl) rfl (q_add (a := t_3) (b := (1 : Int)) rfl rfl rfl) ?_
        refine ro_val (d := (some 13)) rfl (.free rfl) rfl (q_move (v := .int .i64 ((IntKind.i64.wrap (t_3 + (1 : Int))))) rfl rfl) ?_
        refine ro_nil ?_
        exact ⟨(r16, (IntKind.i64.wrap (t_3 + (1 : Int)))), _, arr (upd_step (upd_step (upd_step (upd_step rfl rfl) rfl) rfl) rfl), h⟩
    · refine wp_exit ?_
      refine wp_seq ?_
      refine wp_text [0, 1, 2] rfl ?_
      refine ro_val (d := (some 26)) rfl (.free rfl) rfl (q_move (v := tSlc.enc (b_2)) rfl rfl) ?_
      refine ro_val (d := (some 2)) rfl (.free rfl) rfl (q_assign (v := tSlc.enc (b_2)) rfl rfl) ?_
      refine ro_val (d := (some 3)) rfl (.free rfl) rfl (q_assign (v := .int .i64 ((0 : Int))) rfl rfl) ?_
      refine ro_nil ?_
      refine wp_ret ?_
      exact ret_ok rfl (.cons (.tmp (v := tSlc.enc (b_2)) rfl) (.cons (.tmp (v := .int .i64 ((0 : Int))) rfl) .nil)) ⟨(b_2, (0 : Int)), rfl, h⟩

-- moiety/moietyref02.Pack
def F14_l1 (l_1 : Slc) (s_2 : (List UInt8)) (i_3 : Int) (w4 : World) (K5 : (List UInt8) × Int → World → Prop) (R : ((List UInt8) × Int) → World → Prop) : Prop :=
  if (decide (i_3 < (l_1.len : Int))) = true then (
    ex (IxA l_1 5 i_3) fun a6 =>
    ex (RdAt T35 a6 w4) fun x7 =>
    cl Try.prog 17 [T35.enc (x7)] (tInt .i64) w4 fun r9 w8 =>
    if (r9 != (0 : Int)) = true then (
      R (([] : List UInt8), r9) w8
    ) else (
      ex (IxA l_1 5 i_3) fun a10 =>
      ex (RdAt T35 a10 w8) fun x11 =>
      cl Try.prog 21 [T35.enc (x11)] tStr w8 fun r13 w12 =>
      ex (CatS s_2 r13) fun s14 =>
      K5 (s14, (IntKind.i64.wrap (i_3 + (1 : Int)))) w12
    )
  ) else (
    R (s_2, (0 : Int)) w4
  )
def F14 (l_1 : Slc) (w : World) (R : ((List UInt8) × Int) → World → Prop) : Prop :=
  if (decide ((l_1.len : Int) > (1000 : Int))) = true then (
    R (([] : List UInt8), (20 : Int)) w
  ) else (
    lp (fun (s : (List UInt8) × Int) w K => F14_l1 l_1 s.1 s.2 w K R) (([] : List UInt8), (0 : Int)) w
  )
theorem F14_ok {l_1 : Slc} {w : World} {R : ((List UInt8) × Int) → World → Prop} (h : F14 l_1 w R) : cl Try.prog 14 [tSlc.enc (l_1)] (tTup2 tStr (tInt .i64)) w R := by
  unfold F14 at h
  refine calls_start 32 Try.func14 rfl rfl (Nat.le_of_ble_eq_true rfl) ?_
  refine wp_seq ?_
  refine wp_text [0, 1] rfl ?_
  refine ro_val (d := (some 2)) rfl (.free rfl) rfl (q_assign (v := .string ⟨(([] : List UInt8)).toArray⟩) rfl rfl) ?_
  refine ro_val (d := (some 3)) rfl (.free rfl) rfl (q_assign (v := .int .i64 ((0 : Int))) rfl rfl) ?_
  refine ro_nil ?_
  refine wp_seq ?_
  refine wp_seq ?_
  refine wp_text [0, 1, 2] rfl ?_
  refine ro_val (d := (some 7)) rfl (.free rfl) rfl (q_move (v := tSlc.enc (l_1)) rfl rfl) ?_
  refine ro_val (d := (some 8)) rfl (.free rfl) rfl (q_len (s := l_1) rfl Try.underlying22 rfl) ?_
  refine ro_val (d := (some 9)) rfl (.free rfl) rfl (q_gtr (a := (l_1.len : Int)) (b := (1000 : Int)) rfl rfl rfl) ?_
  refine ro_nil ?_
  refine wp_if (b := (decide ((l_1.len : Int) > (1000 : Int)))) rfl h (fun hb17 h => ?_) (fun hb17 h => ?_)
  · refine wp_seq ?_
    refine wp_text [0, 1] rfl ?_
    refine ro_val (d := (some 2)) rfl (.free rfl) rfl (q_assign (v := .string ⟨(([] : List UInt8)).toArray⟩) rfl rfl) ?_
    refine ro_val (d := (some 3)) rfl (.free rfl) rfl (q_assign (v := .int .i64 ((20 : Int))) rfl rfl) ?_
    refine ro_nil ?_
    refine wp_ret ?_
    exact ret_ok rfl (.cons (.tmp (v := .string ⟨(([] : List UInt8)).toArray⟩) rfl) (.cons (.tmp (v := .int .i64 ((20 : Int))) rfl) .nil)) ⟨(([] : List UInt8), (20 : Int)), rfl, h⟩
  · refine wp_skip ?_
    refine wp_seq ?_
    refine wp_text [0] rfl ?_
    refine ro_val (d := (some 4)) rfl (.free rfl) rfl (q_assign (v := .string ⟨(([] : List UInt8)).toArray⟩) rfl rfl) ?_
    refine ro_nil ?_
    refine wp_seq ?_
    refine wp_seq ?_
    refine wp_text [0] rfl ?_
    refine ro_val (d := (some 5)) rfl (.free rfl) rfl (q_assign (v := .int .i64 ((0 : Int))) rfl rfl) ?_
    refine ro_nil ?_
    refine wp_block ?_
    refine loop_at (σ := (List UInt8) × Int) (fr := fun g (s : (List UInt8) × Int) => upd (upd (upd (g) 0 (tSlc.enc (l_1))) 4 (.string ⟨(s.1).toArray⟩)) 5 (.int .i64 (s.2))) (s0 := (([] : List UInt8), (0 : Int))) (upd_step (upd_step (upd_step rfl rfl) rfl) rfl) h ?_
    rintro ⟨s_2, i_3⟩ g w4 K5 h
    unfold F14_l1 at h
    refine wp_seq ?_
    refine wp_seq ?_
    refine wp_text [0, 1, 2, 3] rfl ?_
    refine ro_val (d := (some 10)) rfl (.free rfl) rfl (q_move (v := .int .i64 (i_3)) rfl rfl) ?_
    refine ro_val (d := (some 11)) rfl (.free rfl) rfl (q_move (v := tSlc.enc (l_1)) rfl rfl) ?_
    refine ro_val (d := (some 12)) rfl (.free rfl) rfl (q_len (s := l_1) rfl Try.underlying22 rfl) ?_
    refine ro_val (d := (some 13)) rfl (.free rfl) rfl (q_lss (a := i_3) (b := (l_1.len : Int)) rfl rfl rfl) ?_
    refine ro_nil ?_
    refine wp_if (b := (decide (i_3 < (l_1.len : Int)))) rfl h (fun hb16 h => ?_) (fun hb16 h => ?_)
    · refine wp_skip ?_
      refine wp_seq ?_
      refine wp_block ?_
      refine wp_seq ?_
      refine wp_seq ?_
      refine wp_text [0, 1, 2, 3, 4, 5] rfl ?_
      refine ro_val (d := (some 16)) rfl (.free rfl) rfl (q_move (v := tSlc.enc (l_1)) rfl rfl) ?_
      refine ro_val (d := (some 17)) rfl (.free rfl) rfl (q_move (v := .int .i64 (i_3)) rfl rfl) ?_
      obtain ⟨a6, ha6, h⟩ := h
      refine ro_val (d := (some 18)) rfl (.free rfl) rfl (q_indexAddr (s := l_1) (i := i_3) rfl Try.underlying22 ok36 rfl rfl ha6) ?_
      obtain ⟨x7, hx7, h⟩ := h
      refine ro_val (d := (some 19)) rfl (.free rfl) rfl (q_load (T := T35) (u := x7) (a := a6) rfl ok36 rfl hx7) ?_
      refine ro_wp rfl (.free rfl) (wp_cl (d := (some 20)) rfl (q_call (k := 17) (l := [T35.enc (x7)]) rfl ent17 rfl) h ?_)
      intro r9 w8 h
      refine ro_val (d := (some 6)) rfl (.free rfl) rfl (q_assign (v := .int .i64 (r9)) rfl rfl) ?_
      refine ro_nil ?_
      refine wp_seq ?_
      refine wp_text [0, 1] rfl ?_
      refine ro_val (d := (some 21)) rfl (.free rfl) rfl (q_move (v := .int .i64 (r9)) rfl rfl) ?_
      refine ro_val (d := (some 22)) rfl (.free rfl) rfl (q_neq (a := r9) (b := (0 : Int)) rfl rfl rfl) ?_
      refine ro_nil ?_
      refine wp_if (b := (r9 != (0 : Int))) rfl h (fun hb15 h => ?_) (fun hb15 h => ?_)
      · refine wp_seq ?_
        refine wp_text [0, 1, 2] rfl ?_
        refine ro_val (d := (some 23)) rfl (.free rfl) rfl (q_move (v := .int .i64 (r9)) rfl rfl) ?_
        refine ro_val (d := (some 2)) rfl (.free rfl) rfl (q_assign (v := .string ⟨(([] : List UInt8)).toArray⟩) rfl rfl) ?_
        refine ro_val (d := (some 3)) rfl (.free rfl) rfl (q_assign (v := .int .i64 (r9)) rfl rfl) ?_
        refine ro_nil ?_
        refine wp_ret ?_
        exact ret_ok rfl (.cons (.tmp (v := .string ⟨(([] : List UInt8)).toArray⟩) rfl) (.cons (.tmp (v := .int .i64 (r9)) rfl) .nil)) ⟨(([] : List UInt8), r9), rfl, h⟩
      · refine wp_skip ?_
        refine wp_text [0, 1, 2, 3, 4, 5, 6, 7] rfl ?_
        refine ro_val (d := (some 24)) rfl (.free rfl) rfl (q_move (v := .string ⟨(s_2).toArray⟩) rfl rfl) ?_
        refine ro_val (d := (some 25)) rfl (.free rfl) rfl (q_move (v := tSlc.enc (l_1)) rfl rfl) ?_
        refine ro_val (d := (some 26)) rfl (.free rfl) rfl (q_move (v := .int .i64 (i_3)) rfl rfl) ?_
        obtain ⟨a10, ha10, h⟩ := h
        refine ro_val (d := (some 27)) rfl (.free rfl) rfl (q_indexAddr (s := l_1) (i := i_3) rfl Try.underlying22 ok36 rfl rfl ha10) ?_
        obtain ⟨x11, hx11, h⟩ := h
        refine ro_val (d := (some 28)) rfl (.free rfl) rfl (q_load (T := T35) (u := x11) (a := a10) rfl ok36 rfl hx11) ?_
        refine ro_wp rfl (.free rfl) (wp_cl (d := (some 29)) rfl (q_call (k := 21) (l := [T35.enc (x11)]) rfl ent21 rfl) h ?_)
        intro r13 w12 h
        obtain ⟨s14, hs14, h⟩ := h
        refine ro_val (d := (some 30)) rfl (.free rfl) rfl (q_catS (a := s_2) (b := r13) (r := s14) rfl rfl rfl hs14) ?_
        refine ro_val (d := (some 4)) rfl (.free rfl) rfl (q_assign (v := .string ⟨(s14).toArray⟩) rfl rfl) ?_
        refine ro_nil ?_
        refine wp_text [0, 1, 2] rfl ?_
        refine ro_val (d := (some 14)) rfl (.free rfl) rfl (q_move (v := .int .i64 (i_3)) rfl rfl) ?_
        refine ro_val (d := (some 15)) rfl (.free rfl) rfl (q_add (a := i_3) (b := (1 : Int)) rfl rfl rfl) ?_
        refine ro_val (d := (some 5)) rfl (.free rfl) rfl (q_assign (v := .int .i64 ((IntKind.i64.wrap (i_3 + (1 : Int))))) rfl rfl) ?_
        refine ro_nil ?_
        exact ⟨(s14, (IntKind.i64.wrap (i_3 + (1 : Int)))), _, arr (upd_step (upd_step (upd_step rfl rfl) rfl) rfl), h⟩
    · refine wp_exit ?_
      refine wp_seq ?_
      refine wp_text [0, 1, 2] rfl ?_
      refine ro_val (d := (some 31)) rfl (.free rfl) rfl (q_move (v := .string ⟨(s_2).toArray⟩) rfl rfl) ?_
      refine ro_val (d := (some 2)) rfl (.free rfl) rfl (q_assign (v := .string ⟨(s_2).toArray⟩) rfl rfl) ?_
      refine ro_val (d := (some 3)) rfl (.free rfl) rfl (q_assign (v := .int .i64 ((0 : Int))) rfl rfl) ?_
      refine ro_nil ?_
      refine wp_ret ?_
      exact ret_ok rfl (.cons (.tmp (v := .string ⟨(s_2).toArray⟩) rfl) (.cons (.tmp (v := .int .i64 ((0 : Int))) rfl) .nil)) ⟨(s_2, (0 : Int)), rfl, h⟩

-- moiety/moietyref02.All
def F15_l1 (a_1 : Slc) (b_2 : Slc) (i_3 : Int) (w4 : World) (K5 : Int → World → Prop) (R : Bool → World → Prop) : Prop :=
  if (decide (i_3 < (a_1.len : Int))) = true then (
    dr w4 fun w6 =>
    ex (IxA a_1 5 i_3) fun a7 =>
    ex (IxA b_2 5 i_3) fun a8 =>
    ex (RdAt T35 a7 w6) fun x9 =>
    ex (RdAt T35 a8 w6) fun x10 =>
    cl Try.prog 19 [T35.enc (x9), T35.enc (x10)] tBool w6 fun r12 w11 =>
    if (!r12) = true then (
      R false w11
    ) else (
      K5 ((IntKind.i64.wrap (i_3 + (1 : Int)))) w11
    )
  ) else (
    R true w4
  )
def F15 (a_1 : Slc) (b_2 : Slc) (w : World) (R : Bool → World → Prop) : Prop :=
  if ((a_1.len : Int) != (b_2.len : Int)) = true then (
    R false w
  ) else (
    lp (fun (s : Int) w K => F15_l1 a_1 b_2 s w K R) ((0 : Int)) w
  )
theorem F15_ok {a_1 : Slc} {b_2 : Slc} {w : World} {R : Bool → World → Prop} (h : F15 a_1 b_2 w R) : cl Try.prog 15 [tSlc.enc (a_1), tSlc.enc (b_2)] tBool w R := by
  unfold F15 at h
  refine calls_start 27 Try.func15 rfl rfl (Nat.le_of_ble_eq_true rfl) ?_
  refine wp_seq ?_
  refine wp_text [0] rfl ?_
  refine ro_val (d := (some 4)) rfl (.free rfl) rfl (q_assign (v := .bool (false)) rfl rfl) ?_
  refine ro_nil ?_
  refine wp_seq ?_
  refine wp_seq ?_
  refine wp_text [0, 1, 2, 3, 4] rfl ?_
  refine ro_val (d := (some 6)) rfl (.free rfl) rfl (q_move (v := tSlc.enc (a_1)) rfl rfl) ?_
  refine ro_val (d := (some 7)) rfl (.free rfl) rfl (q_len (s := a_1) rfl Try.underlying22 rfl) ?_
  refine ro_val (d := (some 8)) rfl (.free rfl) rfl (q_move (v := tSlc.enc (b_2)) rfl rfl) ?_
  refine ro_val (d := (some 9)) rfl (.free rfl) rfl (q_len (s := b_2) rfl Try.underlying22 rfl) ?_
  refine ro_val (d := (some 10)) rfl (.free rfl) rfl (q_neq (a := (a_1.len : Int)) (b := (b_2.len : Int)) rfl rfl rfl) ?_
  refine ro_nil ?_
  refine wp_if (b := ((a_1.len : Int) != (b_2.len : Int))) rfl h (fun hb15 h => ?_) (fun hb15 h => ?_)
  · refine wp_seq ?_
    refine wp_text [0] rfl ?_
    refine ro_val (d := (some 4)) rfl (.free rfl) rfl (q_assign (v := .bool (false)) rfl rfl) ?_
    refine ro_nil ?_
    refine wp_ret ?_
    exact ret_ok rfl (.cons (.tmp (v := .bool (false)) rfl) .nil) ⟨false, rfl, h⟩
  · refine wp_skip ?_
    refine wp_seq ?_
    refine wp_seq ?_
    refine wp_text [0] rfl ?_
    refine ro_val (d := (some 5)) rfl (.free rfl) rfl (q_assign (v := .int .i64 ((0 : Int))) rfl rfl) ?_
    refine ro_nil ?_
    refine wp_block ?_
    refine loop_at (σ := Int) (fr := fun g (s : Int) => upd (upd (upd (g) 0 (tSlc.enc (a_1))) 1 (tSlc.enc (b_2))) 5 (.int .i64 (s))) (s0 := ((0 : Int))) (upd_step (upd_step (upd_step rfl rfl) rfl) rfl) h ?_
    rintro i_3 g w4 K5 h
    unfold F15_l1 at h
    refine wp_seq ?_
    refine wp_seq ?_
    refine wp_text [0, 1, 2, 3] rfl ?_
    refine ro_val (d := (some 11)) rfl (.free rfl) rfl (q_move (v := .int .i64 (i_3)) rfl rfl) ?_
    refine ro_val (d := (some 12)) rfl (.free rfl) rfl (q_move (v := tSlc.enc (a_1)) rfl rfl) ?_
    refine ro_val (d := (some 13)) rfl (.free rfl) rfl (q_len (s := a_1) rfl Try.underlying22 rfl) ?_
    refine ro_val (d := (some 14)) rfl (.free rfl) rfl (q_lss (a := i_3) (b := (a_1.len : Int)) rfl rfl rfl) ?_
    refine ro_nil ?_
    refine wp_if (b := (decide (i_3 < (a_1.len : Int)))) rfl h (fun hb14 h => ?_) (fun hb14 h => ?_)
    · refine wp_skip ?_
      refine wp_seq ?_
      refine wp_block ?_
      refine wp_seq ?_
      obtain ⟨w6, hw6, h⟩ := dr_open h
      refine wp_drawn 10 mixed rfl (by kernel_rfl) (by intro c a d v w h; cases d <;> exact h) hw6 (fun hD => ?_)
      refine rd_pure (i := 0) (d := (some 17)) hD (by kernel_rfl) (by kernel_rfl) rfl (.free rfl) rfl (fun _ => q_move (v := tSlc.enc (a_1)) rfl rfl) ?_
      refine rd_pure (i := 1) (d := (some 18)) hD (by kernel_rfl) (by kernel_rfl) rfl (.free rfl) rfl (fun _ => q_move (v := .int .i64 (i_3)) rfl rfl) ?_
      obtain ⟨a7, ha7, h⟩ := h
      refine rd_pure (i := 2) (d := (some 19)) hD (by kernel_rfl) (by kernel_rfl) rfl (.free rfl) rfl (fun _ => q_indexAddr (s := a_1) (i := i_3) rfl Try.underlying22 ok36 rfl rfl ha7) ?_
      refine rd_pure (i := 4) (d := (some 21)) hD (by kernel_rfl) (by kernel_rfl) rfl (.free rfl) rfl (fun _ => q_move (v := tSlc.enc (b_2)) rfl rfl) ?_
      refine rd_pure (i := 5) (d := (some 22)) hD (by kernel_rfl) (by kernel_rfl) rfl (.free rfl) rfl (fun _ => q_move (v := .int .i64 (i_3)) rfl rfl) ?_
      obtain ⟨a8, ha8, h⟩ := h
      refine rd_pure (i := 6) (d := (some 23)) hD (by kernel_rfl) (by kernel_rfl) rfl (.free rfl) rfl (fun _ => q_indexAddr (s := b_2) (i := i_3) rfl Try.underlying22 ok36 rfl rfl ha8) ?_
      obtain ⟨x9, hx9, h⟩ := h
      refine rd_read (i := 3) (d := (some 20)) (fun W => (RdAt T35 a7 W) x9) hD (by kernel_rfl) (by kernel_rfl) rfl (.free rfl) rfl (fun W hr => q_load (T := T35) (u := x9) (a := a7) rfl ok36 rfl hr) hx9 ?_
      obtain ⟨x10, hx10, h⟩ := h
      refine rd_read (i := 7) (d := (some 24)) (fun W => (RdAt T35 a8 W) x10) hD (by kernel_rfl) (by kernel_rfl) rfl (.free rfl) rfl (fun W hr => q_load (T := T35) (u := x10) (a := a8) rfl ok36 rfl hr) hx10 ?_
      refine rd_one (i := 8) (by kernel_rfl) ?_
      refine po_wp rfl (.free rfl) (wp_cl (d := (some 25)) rfl (q_call (k := 19) (l := [T35.enc (x9), T35.enc (x10)]) rfl ent19 rfl) h ?_)
      intro r12 w11 h
      refine ⟨(hk_wait (by kernel_rfl) (hk_wait (by kernel_rfl) hk_nil)), ?_⟩
      refine rd_pure (i := 9) (d := (some 26)) hD (by kernel_rfl) (by kernel_rfl) rfl (.free rfl) rfl (fun _ => q_not (b := r12) rfl rfl) ?_
      refine rd_nil (by kernel_rfl) ?_
      refine wp_if (b := (!r12)) rfl h (fun hb13 h => ?_) (fun hb13 h => ?_)
      · refine wp_seq ?_
        refine wp_text [0] rfl ?_
        refine ro_val (d := (some 4)) rfl (.free rfl) rfl (q_assign (v := .bool (false)) rfl rfl) ?_
        refine ro_nil ?_
        refine wp_ret ?_
        exact ret_ok rfl (.cons (.tmp (v := .bool (false)) rfl) .nil) ⟨false, rfl, h⟩
      · refine wp_skip ?_
        refine wp_text [0, 1, 2] rfl ?_
        refine ro_val (d := (some 15)) rfl (.free rfl) rfl (q_move (v := .int .i64 (i_3)) rfl rfl) ?_
        refine ro_val (d := (some 16)) rfl (.free rfl) rfl (q_add (a := i_3) (b := (1 : Int)) rfl rfl rfl) ?_
        refine ro_val (d := (some 5)) rfl (.free rfl) rfl (q_assign (v := .int .i64 ((IntKind.i64.wrap (i_3 + (1 : Int))))) rfl rfl) ?_
        refine ro_nil ?_
        exact ⟨((IntKind.i64.wrap (i_3 + (1 : Int)))), _, arr (upd_step (upd_step (upd_step rfl rfl) rfl) rfl), h⟩
    · refine wp_exit ?_
      refine wp_seq ?_
      refine wp_text [0] rfl ?_
      refine ro_val (d := (some 4)) rfl (.free rfl) rfl (q_assign (v := .bool (true)) rfl rfl) ?_
      refine ro_nil ?_
      refine wp_ret ?_
      exact ret_ok rfl (.cons (.tmp (v := .bool (true)) rfl) .nil) ⟨true, rfl, h⟩

-- moiety/wire.Valid
def F16 (v_1 : S35) (w : World) (R : Int → World → Prop) : Prop :=
  nw 36 T35 v_1 w fun a2 w3 =>
  ex (RdAt T35 a2 w3) fun x4 =>
  cl Try.prog 22 [T35.enc (x4)] tBool w3 fun r6 w5 =>
  if (!r6) = true then (
    R (21 : Int) w5
  ) else (
    ex (RdAt tStr (a2.add 4) w5) fun x7 =>
    if (decide ((x7.length : Int) > (1000 : Int))) = true then (
      R (24 : Int) w5
    ) else (
      R (0 : Int) w5
    )
  )
theorem F16_ok {v_1 : S35} {w : World} {R : Int → World → Prop} (h : F16 v_1 w R) : cl Try.prog 16 [T35.enc (v_1)] (tInt .i64) w R := by
  unfold F16 at h
  refine calls_start 12 Try.func16 rfl rfl (Nat.le_of_ble_eq_true rfl) ?_
  refine wp_seq ?_
  refine wp_text [0, 1] rfl ?_
  obtain ⟨a2, w3, ha2, hw3, h⟩ := nw_open h
  refine ro_val (d := (some 1)) rfl (.free rfl) rfl (q_box (u := v_1) rfl ok36 rfl ha2 hw3) ?_
  refine ro_val (d := (some 2)) rfl (.free rfl) rfl (q_assign (v := .int .i64 ((0 : Int))) rfl rfl) ?_
  refine ro_nil ?_
  refine wp_seq ?_
  refine wp_block ?_
  refine wp_seq ?_
  refine wp_text [0, 1, 2, 3] rfl ?_
  obtain ⟨x4, hx4, h⟩ := h
  refine ro_val (d := (some 4)) rfl (.free rfl) rfl (q_load (T := T35) (u := x4) (a := a2) rfl ok36 rfl hx4) ?_
  refine ro_wp rfl (.free rfl) (wp_cl (d := (some 5)) rfl (q_call (k := 22) (l := [T35.enc (x4)]) rfl ent22 rfl) h ?_)
  intro r6 w5 h
  refine ro_val (d := (some 6)) rfl (.free rfl) rfl (q_not (b := r6) rfl rfl) ?_
  refine ro_val (d := (some 3)) rfl (.free rfl) rfl (q_assign (v := .bool ((!r6))) rfl rfl) ?_
  refine ro_nil ?_
  refine wp_if (b := (!r6)) rfl h (fun hb9 h => ?_) (fun hb9 h => ?_)
  · refine wp_seq ?_
    refine wp_text [0] rfl ?_
    refine ro_val (d := (some 2)) rfl (.free rfl) rfl (q_assign (v := .int .i64 ((21 : Int))) rfl rfl) ?_
    refine ro_nil ?_
    refine wp_ret ?_
    exact ret_ok rfl (.cons (.tmp (v := .int .i64 ((21 : Int))) rfl) .nil) ⟨(21 : Int), rfl, h⟩
  · refine wp_seq ?_
    refine wp_text [0, 1, 2, 3, 4] rfl ?_
    refine ro_val (d := (some 8)) rfl (.free rfl) rfl (q_fieldAddr (a := a2) (off := 4) rfl Try.underlying36 rfl rfl ok9 (by decide) rfl) ?_
    obtain ⟨x7, hx7, h⟩ := h
    refine ro_val (d := (some 9)) rfl (.free rfl) rfl (q_load (T := tStr) (u := x7) (a := (a2.add 4)) rfl ok9 rfl hx7) ?_
    refine ro_val (d := (some 10)) rfl (.free rfl) rfl (q_lenS (s := x7) rfl Try.underlying9 rfl) ?_
    refine ro_val (d := (some 11)) rfl (.free rfl) rfl (q_gtr (a := (x7.length : Int)) (b := (1000 : Int)) rfl rfl rfl) ?_
    refine ro_val (d := (some 7)) rfl (.free rfl) rfl (q_assign (v := .bool ((decide ((x7.length : Int) > (1000 : Int))))) rfl rfl) ?_
    refine ro_nil ?_
    refine wp_if (b := (decide ((x7.length : Int) > (1000 : Int)))) rfl h (fun hb8 h => ?_) (fun hb8 h => ?_)
    · refine wp_seq ?_
      refine wp_text [0] rfl ?_
      refine ro_val (d := (some 2)) rfl (.free rfl) rfl (q_assign (v := .int .i64 ((24 : Int))) rfl rfl) ?_
      refine ro_nil ?_
      refine wp_ret ?_
      exact ret_ok rfl (.cons (.tmp (v := .int .i64 ((24 : Int))) rfl) .nil) ⟨(24 : Int), rfl, h⟩
    · refine wp_skip ?_
      refine wp_seq ?_
      refine wp_text [0] rfl ?_
      refine ro_val (d := (some 2)) rfl (.free rfl) rfl (q_assign (v := .int .i64 ((0 : Int))) rfl rfl) ?_
      refine ro_nil ?_
      refine wp_ret ?_
      exact ret_ok rfl (.cons (.tmp (v := .int .i64 ((0 : Int))) rfl) .nil) ⟨(0 : Int), rfl, h⟩

end Go.Proofs.Ytjhenlajkhckfaa.Cf
