/- Characteristic formulae of Go functions, and that they are. Printed by gen.py (own tool). -/
import Derived.Test.YtjkmeooncmhonaaTy
namespace Go.Proofs.Ytjkmeooncmhonaa.Cf
open Go
set_option maxRecDepth 100000
set_option maxHeartbeats 1000000
set_option linter.unusedVariables false
set_option linter.unusedSimpArgs false

-- (*moiety/ballot.Acceptor).lay
def F27 (a_1 : (Option Addr)) (l_2 : Slc) (w : World) (R : Int → World → Prop) : Prop :=
  cl Try.prog 40 [tSlc.enc (l_2)] (tTup2 tSlc (tInt .i64)) w fun r4 w3 =>
  if (r4.2 != (0 : Int)) = true then (
    R r4.2 w3
  ) else (
    ex (NC a_1) fun a5 =>
    ex (RdAt tPtr (a5.add 0) w3) fun x6 =>
    cl Try.prog 41 [.pointer (x6), tSlc.enc (r4.1)] (tInt .i64) w3 fun r8 w7 =>
    R r8 w7
  )
theorem F27_ok {a_1 : (Option Addr)} {l_2 : Slc} {w : World} {R : Int → World → Prop} (h : F27 a_1 l_2 w R) : cl Try.prog 27 [.pointer (a_1), tSlc.enc (l_2)] (tInt .i64) w R := by
  unfold F27 at h
  refine calls_start 21 Try.func27 rfl rfl (Nat.le_of_ble_eq_true rfl) ?_
  refine wp_seq ?_
  refine wp_text [0] rfl ?_
  refine rv 4 rfl rfl rfl (q_assign (v := .int .i64 ((0 : Int))) rfl rfl) ?_
  refine ro_nil ?_
  refine wp_seq ?_
  refine wp_text [0, 1, 2, 3, 4, 5, 6] rfl ?_
  refine rv 8 rfl rfl rfl (q_move (v := tSlc.enc (l_2)) rfl rfl) ?_
  refine ro_wp rfl (.free rfl) (wp_cl (d := (some 9)) rfl (q_call (k := 40) (l := [tSlc.enc (l_2)]) rfl ent40 rfl) h ?_)
  intro r4 w3 h
  refine rv 7 rfl rfl rfl (q_move (v := (tTup2 tSlc (tInt .i64)).enc (r4)) rfl rfl) ?_
  refine rv 10 rfl rfl rfl (q_extract (vs := #[tSlc.enc (r4.1), .int .i64 (r4.2)]) (v := tSlc.enc (r4.1)) rfl rfl rfl) ?_
  refine rv 11 rfl rfl rfl (q_extract (vs := #[tSlc.enc (r4.1), .int .i64 (r4.2)]) (v := .int .i64 (r4.2)) rfl rfl rfl) ?_
  refine rv 5 rfl rfl rfl (q_assign (v := tSlc.enc (r4.1)) rfl rfl) ?_
  refine rv 6 rfl rfl rfl (q_assign (v := .int .i64 (r4.2)) rfl rfl) ?_
  refine ro_nil ?_
  refine wp_seq ?_
  refine wp_seq ?_
  refine wp_text [0, 1] rfl ?_
  refine rv 12 rfl rfl rfl (q_move (v := .int .i64 (r4.2)) rfl rfl) ?_
  refine rv 13 rfl rfl rfl (q_neq (a := r4.2) (b := (0 : Int)) rfl rfl rfl) ?_
  refine ro_nil ?_
  refine wp_if (b := (r4.2 != (0 : Int))) rfl h (fun hb9 h => ?_) (fun hb9 h => ?_)
  · refine wp_seq ?_
    refine wp_text [0, 1] rfl ?_
    refine rv 14 rfl rfl rfl (q_move (v := .int .i64 (r4.2)) rfl rfl) ?_
    refine rv 4 rfl rfl rfl (q_assign (v := .int .i64 (r4.2)) rfl rfl) ?_
    refine ro_nil ?_
    refine wp_ret ?_
    exact ret_ok rfl (.cons (.tmp (v := .int .i64 (r4.2)) rfl) .nil) ⟨r4.2, rfl, h⟩
  · refine wp_skip ?_
    refine wp_seq ?_
    refine wp_text [0, 1, 2, 3, 4, 5, 6] rfl ?_
    refine rv 15 rfl rfl rfl (q_move (v := .pointer (a_1)) rfl rfl) ?_
    obtain ⟨a5, ha5, h⟩ := h
    refine rv 16 rfl rfl rfl (q_nilCheck (a := a5) rfl (congrArg Value.pointer ha5)) ?_
    refine rv 17 rfl rfl rfl (q_fieldAddr (a := a5) (off := 0) rfl Try.underlying53 rfl rfl ok50 (by decide) rfl) ?_
    obtain ⟨x6, hx6, h⟩ := h
    refine rv 18 rfl rfl rfl (q_load (T := tPtr) (u := x6) (a := (a5.add 0)) rfl ok50 rfl hx6) ?_
    refine rv 19 rfl rfl rfl (q_move (v := tSlc.enc (r4.1)) rfl rfl) ?_
    refine ro_wp rfl (.free rfl) (wp_cl (d := (some 20)) rfl (q_call (k := 41) (l := [.pointer (x6), tSlc.enc (r4.1)]) rfl ent41 rfl) h ?_)
    intro r8 w7 h
    refine rv 4 rfl rfl rfl (q_assign (v := .int .i64 (r8)) rfl rfl) ?_
    refine ro_nil ?_
    refine wp_ret ?_
    exact ret_ok rfl (.cons (.tmp (v := .int .i64 (r8)) rfl) .nil) ⟨r8, rfl, h⟩

-- moiety/ballot.slot
def F28 (n_1 : Int) (w : World) (R : Bool → World → Prop) : Prop :=
  R ((decide (n_1 ≥ (1 : Int))) && (decide (n_1 ≤ (1000 : Int)))) w
theorem F28_ok {n_1 : Int} {w : World} {R : Bool → World → Prop} (h : F28 n_1 w R) : cl Try.prog 28 [.int .i64 (n_1)] tBool w R := by
  unfold F28 at h
  refine calls_start 9 Try.func28 rfl rfl (Nat.le_of_ble_eq_true rfl) ?_
  refine wp_seq ?_
  refine wp_text [0] rfl ?_
  refine rv 2 rfl rfl rfl (q_assign (v := .bool (false)) rfl rfl) ?_
  refine ro_nil ?_
  refine wp_seq ?_
  refine wp_text [0, 1, 2, 3, 4, 5, 6] rfl ?_
  refine rv 3 rfl rfl rfl (q_move (v := .int .i64 (n_1)) rfl rfl) ?_
  refine rv 4 rfl rfl rfl (q_geq (a := n_1) (b := (1 : Int)) rfl rfl rfl) ?_
  refine rv 5 rfl rfl rfl (q_move (v := .bool ((decide (n_1 ≥ (1 : Int))))) rfl rfl) ?_
  refine ro_gval (g := (decide (n_1 ≥ (1 : Int)))) (d := (some 6)) rfl (.yes 2 5 true (decide (n_1 ≥ (1 : Int))) rfl rfl rfl rfl) rfl (fun hg => q_move (v := .int .i64 (n_1)) rfl rfl) ?_
  refine ro_gval (g := (decide (n_1 ≥ (1 : Int)))) (d := (some 7)) rfl (.yes 2 5 true (decide (n_1 ≥ (1 : Int))) rfl rfl rfl rfl) rfl (fun hg => q_leq (a := n_1) (b := (1000 : Int)) rfl (gvb_yes hg) rfl) ?_
  refine rv 8 rfl rfl rfl (q_pickGT (a := (decide (n_1 ≥ (1 : Int)))) (b := (decide (n_1 ≤ (1000 : Int)))) rfl rfl rfl rfl) ?_
  refine rv 2 rfl rfl rfl (q_assign (v := .bool (((decide (n_1 ≥ (1 : Int))) && (decide (n_1 ≤ (1000 : Int)))))) rfl rfl) ?_
  refine ro_nil ?_
  refine wp_ret ?_
  exact ret_ok rfl (.cons (.tmp (v := .bool (((decide (n_1 ≥ (1 : Int))) && (decide (n_1 ≤ (1000 : Int)))))) rfl) .nil) ⟨((decide (n_1 ≥ (1 : Int))) && (decide (n_1 ≤ (1000 : Int)))), rfl, h⟩

-- (*moiety/ballot.Acceptor).vote
def F29 (a_1 : (Option Addr)) (x_2 : S46) (w : World) (R : Unit → World → Prop) : Prop :=
  nw 47 T46 x_2 w fun a3 w4 =>
  dr w4 fun w5 =>
  ex (NC a_1) fun a6 =>
  ex (RdAt (tInt .i64) (a6.add 1) w5) fun x7 =>
  ex (RdAt (tInt .i64) (a3.add 1) w5) fun x8 =>
  st (tInt .i64) (a6.add 1) (max x7 x8) w5 fun w9 =>
  dr w9 fun w10 =>
  ex (RdAt tMap (a6.add 2) w10) fun x11 =>
  ex (RdAt (tInt .i64) (a3.add 0) w10) fun x12 =>
  ex (RdAt T46 a3 w10) fun x13 =>
  mput T46 .i64 x11 x12 x13 w10 fun w14 =>
  R () w14
theorem F29_ok {a_1 : (Option Addr)} {x_2 : S46} {w : World} {R : Unit → World → Prop} (h : F29 a_1 x_2 w R) : cl Try.prog 29 [.pointer (a_1), T46.enc (x_2)] tUnit w R := by
  unfold F29 at h
  refine calls_start 21 Try.func29 rfl rfl (Nat.le_of_ble_eq_true rfl) ?_
  refine wp_seq ?_
  refine wp_text [0] rfl ?_
  obtain ⟨a3, w4, ha3, hw4, h⟩ := nw_open h
  refine rv 3 rfl rfl rfl (q_box (u := x_2) rfl ok47 rfl ha3 hw4) ?_
  refine ro_nil ?_
  refine wp_seq ?_
  obtain ⟨w5, hw5, h⟩ := dr_open h
  refine wp_drawn 11 mixed rfl (by kernel_rfl) (by intro c a d v w h; cases d <;> exact h) hw5 (fun hD => ?_)
  refine rp 0 4 hD rfl rfl rfl (fun _ => q_move (v := .pointer (a_1)) rfl rfl) ?_
  refine rp 1 5 hD rfl rfl rfl (fun _ => q_move (v := .pointer (a_1)) rfl rfl) ?_
  obtain ⟨a6, ha6, h⟩ := h
  refine rp 2 6 hD rfl rfl rfl (fun _ => q_nilCheck (a := a6) rfl (congrArg Value.pointer ha6)) ?_
  refine rp 3 7 hD rfl rfl rfl (fun _ => q_fieldAddr (a := a6) (off := 1) rfl Try.underlying53 rfl rfl ok2 (by decide) rfl) ?_
  refine rp 5 9 hD rfl rfl rfl (fun _ => q_fieldAddr (a := a3) (off := 1) rfl Try.underlying47 rfl rfl ok2 (by decide) rfl) ?_
  obtain ⟨x7, hx7, h⟩ := h
  refine rd_read (i := 4) (d := (some 8)) (fun W => (RdAt (tInt .i64) (a6.add 1) W) x7) hD (by kernel_rfl) (by kernel_rfl) rfl (.free rfl) rfl (fun W hr => q_load (T := (tInt .i64)) (u := x7) (a := (a6.add 1)) rfl ok2 rfl hr) hx7 ?_
  obtain ⟨x8, hx8, h⟩ := h
  refine rd_read (i := 6) (d := (some 10)) (fun W => (RdAt (tInt .i64) (a3.add 1) W) x8) hD (by kernel_rfl) (by kernel_rfl) rfl (.free rfl) rfl (fun W hr => q_load (T := (tInt .i64)) (u := x8) (a := (a3.add 1)) rfl ok2 rfl hr) hx8 ?_
  refine rp 7 11 hD rfl rfl rfl (fun _ => q_max (a := x7) (b := x8) rfl rfl rfl) ?_
  refine rp 8 12 hD rfl rfl rfl (fun _ => q_nilCheck (a := a6) rfl (congrArg Value.pointer ha6)) ?_
  refine rp 9 13 hD rfl rfl rfl (fun _ => q_fieldAddr (a := a6) (off := 1) rfl Try.underlying53 rfl rfl ok2 (by decide) rfl) ?_
  refine rd_one (i := 10) (by kernel_rfl) ?_
  obtain ⟨w9, hw9, hrw9, h⟩ := st_open h
  refine po_skip (d := none) rfl (.free rfl) rfl (q_store (T := (tInt .i64)) (u := (max x7 x8)) (a := (a6.add 1)) rfl ok2 rfl rfl hrw9 hw9) ⟨(hk_wait (by kernel_rfl) (hk_wait (by kernel_rfl) hk_nil)), ?_⟩
  refine rd_nil (by kernel_rfl) ?_
  obtain ⟨w10, hw10, h⟩ := dr_open h
  refine wp_drawn 8 mixed rfl (by kernel_rfl) (by intro c a d v w h; cases d <;> exact h) hw10 (fun hD => ?_)
  refine rp 0 14 hD rfl rfl rfl (fun _ => q_move (v := .pointer (a_1)) rfl rfl) ?_
  refine rp 1 15 hD rfl rfl rfl (fun _ => q_nilCheck (a := a6) rfl (congrArg Value.pointer ha6)) ?_
  refine rp 2 16 hD rfl rfl rfl (fun _ => q_fieldAddr (a := a6) (off := 2) rfl Try.underlying53 rfl rfl ok51 (by decide) rfl) ?_
  refine rp 4 18 hD rfl rfl rfl (fun _ => q_fieldAddr (a := a3) (off := 0) rfl Try.underlying47 rfl rfl ok3 (by decide) rfl) ?_
  obtain ⟨x11, hx11, h⟩ := h
  refine rd_read (i := 3) (d := (some 17)) (fun W => (RdAt tMap (a6.add 2) W) x11) hD (by kernel_rfl) (by kernel_rfl) rfl (.free rfl) rfl (fun W hr => q_load (T := tMap) (u := x11) (a := (a6.add 2)) rfl ok51 rfl hr) hx11 ?_
  obtain ⟨x12, hx12, h⟩ := h
  refine rd_read (i := 5) (d := (some 19)) (fun W => (RdAt (tInt .i64) (a3.add 0) W) x12) hD (by kernel_rfl) (by kernel_rfl) rfl (.free rfl) rfl (fun W hr => q_load (T := (tInt .i64)) (u := x12) (a := (a3.add 0)) rfl ok3 rfl hr) hx12 ?_
  obtain ⟨x13, hx13, h⟩ := h
  refine rd_read (i := 6) (d := (some 20)) (fun W => (RdAt T46 a3 W) x13) hD (by kernel_rfl) (by kernel_rfl) rfl (.free rfl) rfl (fun W hr => q_load (T := T46) (u := x13) (a := a3) rfl ok47 rfl hr) hx13 ?_
  refine rd_one (i := 7) (by kernel_rfl) ?_
  refine po_wp rfl (.free rfl) (wp_mput (T := T46) (r := x11) (key := x12) (v := x13) (d := none) rfl (.inl rfl) Try.underlying51 Try.underlying3 rfl rfl rfl h ?_)
  intro w14 h
  refine ⟨(hk_wait (by kernel_rfl) (hk_wait (by kernel_rfl) (hk_wait (by kernel_rfl) hk_nil))), ?_⟩
  refine rd_nil (by kernel_rfl) ?_
  exact end_ok rfl .nil ⟨(), rfl, h⟩

-- (*moiety/wal.Wal).met
def F30 (w_1 : (Option Addr)) (e_2 : Int) (w : World) (R : Int → World → Prop) : Prop :=
  ex (NC w_1) fun a3 =>
  ex (RdAt tBool (a3.add 4) w) fun x4 =>
  st tBool (a3.add 4) (x4 || (e_2 == (71 : Int))) w fun w5 =>
  R e_2 w5
theorem F30_ok {w_1 : (Option Addr)} {e_2 : Int} {w : World} {R : Int → World → Prop} (h : F30 w_1 e_2 w R) : cl Try.prog 30 [.pointer (w_1), .int .i64 (e_2)] (tInt .i64) w R := by
  unfold F30 at h
  refine calls_start 17 Try.func30 rfl rfl (Nat.le_of_ble_eq_true rfl) ?_
  refine wp_seq ?_
  refine wp_text [0] rfl ?_
  refine rv 4 rfl rfl rfl (q_assign (v := .int .i64 ((0 : Int))) rfl rfl) ?_
  refine ro_nil ?_
  refine wp_seq ?_
  refine wp_text [0, 1, 2, 3, 4, 5, 6, 7, 8, 9, 10, 11] rfl ?_
  refine rv 5 rfl rfl rfl (q_move (v := .pointer (w_1)) rfl rfl) ?_
  refine rv 6 rfl rfl rfl (q_move (v := .pointer (w_1)) rfl rfl) ?_
  obtain ⟨a3, ha3, h⟩ := h
  refine rv 7 rfl rfl rfl (q_nilCheck (a := a3) rfl (congrArg Value.pointer ha3)) ?_
  refine rv 8 rfl rfl rfl (q_fieldAddr (a := a3) (off := 4) rfl Try.underlying97 rfl rfl ok4 (by decide) rfl) ?_
  obtain ⟨x4, hx4, h⟩ := h
  refine rv 9 rfl rfl rfl (q_load (T := tBool) (u := x4) (a := (a3.add 4)) rfl ok4 rfl hx4) ?_
  refine rv 10 rfl rfl rfl (q_move (v := .bool (x4)) rfl rfl) ?_
  refine ro_gval (g := (!x4)) (d := (some 11)) rfl (.no 5 10 true x4 rfl rfl rfl rfl) rfl (fun hg => q_move (v := .int .i64 (e_2)) rfl rfl) ?_
  refine ro_gval (g := (!x4)) (d := (some 12)) rfl (.no 5 10 true x4 rfl rfl rfl rfl) rfl (fun hg => q_eql (a := e_2) (b := (71 : Int)) rfl (gvb_yes hg) rfl) ?_
  refine rv 13 rfl rfl rfl (q_pickGF (a := x4) (c := (e_2 == (71 : Int))) rfl rfl rfl rfl) ?_
  refine rv 14 rfl rfl rfl (q_nilCheck (a := a3) rfl (congrArg Value.pointer ha3)) ?_
  refine rv 15 rfl rfl rfl (q_fieldAddr (a := a3) (off := 4) rfl Try.underlying97 rfl rfl ok4 (by decide) rfl) ?_
  obtain ⟨w5, hw5, hrw5, h⟩ := st_open h
  refine ro_skip (d := none) rfl (.free rfl) rfl (q_store (T := tBool) (u := (x4 || (e_2 == (71 : Int)))) (a := (a3.add 4)) rfl ok4 rfl rfl hrw5 hw5) ?_
  refine ro_nil ?_
  refine wp_seq ?_
  refine wp_text [0, 1] rfl ?_
  refine rv 16 rfl rfl rfl (q_move (v := .int .i64 (e_2)) rfl rfl) ?_
  refine rv 4 rfl rfl rfl (q_assign (v := .int .i64 (e_2)) rfl rfl) ?_
  refine ro_nil ?_
  refine wp_ret ?_
  exact ret_ok rfl (.cons (.tmp (v := .int .i64 (e_2)) rfl) .nil) ⟨e_2, rfl, h⟩

-- (*moiety/disk.Disk).Sync
def F31 (d_1 : (Option Addr)) (n_2 : Int) (w : World) (R : Int → World → Prop) : Prop :=
  cl Try.prog 42 [.pointer (d_1), .int .i64 (n_2), .int .i64 ((0 : Int)), ((Fv.mk (.func 43) #[] #[])).enc] (tInt .i64) w fun r4 w3 =>
  R r4 w3
theorem F31_ok {d_1 : (Option Addr)} {n_2 : Int} {w : World} {R : Int → World → Prop} (h : F31 d_1 n_2 w R) : cl Try.prog 31 [.pointer (d_1), .int .i64 (n_2)] (tInt .i64) w R := by
  unfold F31 at h
  refine calls_start 8 Try.func31 rfl rfl (Nat.le_of_ble_eq_true rfl) ?_
  refine wp_seq ?_
  refine wp_text [0] rfl ?_
  refine rv 4 rfl rfl rfl (q_assign (v := .int .i64 ((0 : Int))) rfl rfl) ?_
  refine ro_nil ?_
  refine wp_seq ?_
  refine wp_text [0, 1, 2, 3] rfl ?_
  refine rv 5 rfl rfl rfl (q_move (v := .pointer (d_1)) rfl rfl) ?_
  refine rv 6 rfl rfl rfl (q_move (v := .int .i64 (n_2)) rfl rfl) ?_
  refine ro_wp rfl (.free rfl) (wp_cl (d := (some 7)) rfl (q_call (k := 42) (l := [.pointer (d_1), .int .i64 (n_2), .int .i64 ((0 : Int)), ((Fv.mk (.func 43) #[] #[])).enc]) rfl ent42 rfl) h ?_)
  intro r4 w3 h
  refine rv 4 rfl rfl rfl (q_assign (v := .int .i64 (r4)) rfl rfl) ?_
  refine ro_nil ?_
  refine wp_ret ?_
  exact ret_ok rfl (.cons (.tmp (v := .int .i64 (r4)) rfl) .nil) ⟨r4, rfl, h⟩

-- maps.Keys[map[int]moiety/api.Vote,int,moiety/api.Vote]
def F33 (m_1 : (Option Nat)) (w : World) (R : Fv → World → Prop) : Prop :=
  nw 51 tMap m_1 w fun a2 w3 =>
  R (Fv.mk (.func 46) (List.toArray []) (List.toArray [.pointer (some a2)])) w3
theorem F33_ok {m_1 : (Option Nat)} {w : World} {R : Fv → World → Prop} (h : F33 m_1 w R) : cl Try.prog 33 [.map (m_1)] tFun w R := by
  unfold F33 at h
  refine calls_start 4 Try.func33 rfl rfl (Nat.le_of_ble_eq_true rfl) ?_
  refine wp_seq ?_
  refine wp_text [0, 1] rfl ?_
  obtain ⟨a2, w3, ha2, hw3, h⟩ := nw_open h
  refine rv 1 rfl rfl rfl (q_box (u := m_1) rfl ok51 rfl ha2 hw3) ?_
  refine rv 2 rfl rfl rfl (q_assign (v := (Fv.nil).enc) rfl rfl) ?_
  refine ro_nil ?_
  refine wp_seq ?_
  refine wp_text [0, 1] rfl ?_
  refine rv 3 rfl rfl rfl (q_makeFunc (fn := .func 46) (va := []) (vc := [.pointer (some a2)]) rfl rfl rfl) ?_
  refine rv 2 rfl rfl rfl (q_assign (v := ((Fv.mk (.func 46) (List.toArray []) (List.toArray [.pointer (some a2)]))).enc) rfl rfl) ?_
  refine ro_nil ?_
  refine wp_ret ?_
  exact ret_ok rfl (.cons (.tmp (v := ((Fv.mk (.func 46) (List.toArray []) (List.toArray [.pointer (some a2)]))).enc) rfl) .nil) ⟨(Fv.mk (.func 46) (List.toArray []) (List.toArray [.pointer (some a2)])), rfl, h⟩

-- (*moiety/disk.Disk).Read
def F34 (d_1 : (Option Addr)) (n_2 : Int) (w : World) (R : (Slc × Int) → World → Prop) : Prop :=
  cl Try.prog 47 [.pointer (d_1), .int .i64 (n_2)] tBool w fun r4 w3 =>
  if (!r4) = true then (
    R ((⟨none, 0, 0⟩ : Slc), (70 : Int)) w3
  ) else (
    ex (NC d_1) fun a5 =>
    ex (RdAt tBool (a5.add 2) w3) fun x6 =>
    if x6 = true then (
      R ((⟨none, 0, 0⟩ : Slc), (71 : Int)) w3
    ) else (
      ex (RdAt tSlc (a5.add 0) w3) fun x7 =>
      ex (IxA x7 2 n_2) fun a8 =>
      ex (RdAt tSlc (a8.add 0) w3) fun x9 =>
      mkS 5 (tInt .u8) 1 (0 : Int) (x9.len : Int) (x9.len : Int) w3 fun r11 w10 =>
      ex (RdAt tSlc (a5.add 0) w10) fun x12 =>
      ex (IxA x12 2 n_2) fun a13 =>
      ex (RdAt tSlc (a13.add 0) w10) fun x14 =>
      cpy (tInt .u8) 1 r11 x14 w10 fun r16 w15 =>
      R (r11, (0 : Int)) w15
    )
  )
theorem F34_ok {d_1 : (Option Addr)} {n_2 : Int} {w : World} {R : (Slc × Int) → World → Prop} (h : F34 d_1 n_2 w R) : cl Try.prog 34 [.pointer (d_1), .int .i64 (n_2)] (tTup2 tSlc (tInt .i64)) w R := by
  unfold F34 at h
  refine calls_start 38 Try.func34 rfl rfl (Nat.le_of_ble_eq_true rfl) ?_
  refine wp_seq ?_
  refine wp_text [0, 1] rfl ?_
  refine rv 4 rfl rfl rfl (q_assign (v := tSlc.enc ((⟨none, 0, 0⟩ : Slc))) rfl rfl) ?_
  refine rv 5 rfl rfl rfl (q_assign (v := .int .i64 ((0 : Int))) rfl rfl) ?_
  refine ro_nil ?_
  refine wp_seq ?_
  refine wp_block ?_
  refine wp_seq ?_
  refine wp_text [0, 1, 2, 3, 4] rfl ?_
  refine rv 8 rfl rfl rfl (q_move (v := .pointer (d_1)) rfl rfl) ?_
  refine rv 9 rfl rfl rfl (q_move (v := .int .i64 (n_2)) rfl rfl) ?_
  refine ro_wp rfl (.free rfl) (wp_cl (d := (some 10)) rfl (q_call (k := 47) (l := [.pointer (d_1), .int .i64 (n_2)]) rfl ent47 rfl) h ?_)
  intro r4 w3 h
  refine rv 11 rfl rfl rfl (q_not (b := r4) rfl rfl) ?_
  refine rv 7 rfl rfl rfl (q_assign (v := .bool ((!r4))) rfl rfl) ?_
  refine ro_nil ?_
  refine wp_if (b := (!r4)) rfl h (fun hb18 h => ?_) (fun hb18 h => ?_)
  · refine wp_seq ?_
    refine wp_text [0, 1] rfl ?_
    refine rv 4 rfl rfl rfl (q_assign (v := tSlc.enc ((⟨none, 0, 0⟩ : Slc))) rfl rfl) ?_
    refine rv 5 rfl rfl rfl (q_assign (v := .int .i64 ((70 : Int))) rfl rfl) ?_
    refine ro_nil ?_
    refine wp_ret ?_
    exact ret_ok rfl (.cons (.tmp (v := tSlc.enc ((⟨none, 0, 0⟩ : Slc))) rfl) (.cons (.tmp (v := .int .i64 ((70 : Int))) rfl) .nil)) ⟨((⟨none, 0, 0⟩ : Slc), (70 : Int)), rfl, h⟩
  · refine wp_seq ?_
    refine wp_text [0, 1, 2, 3, 4] rfl ?_
    refine rv 13 rfl rfl rfl (q_move (v := .pointer (d_1)) rfl rfl) ?_
    obtain ⟨a5, ha5, h⟩ := h
    refine rv 14 rfl rfl rfl (q_nilCheck (a := a5) rfl (congrArg Value.pointer ha5)) ?_
    refine rv 15 rfl rfl rfl (q_fieldAddr (a := a5) (off := 2) rfl Try.underlying80 rfl rfl ok4 (by decide) rfl) ?_
    obtain ⟨x6, hx6, h⟩ := h
    refine rv 16 rfl rfl rfl (q_load (T := tBool) (u := x6) (a := (a5.add 2)) rfl ok4 rfl hx6) ?_
    refine rv 12 rfl rfl rfl (q_assign (v := .bool (x6)) rfl rfl) ?_
    refine ro_nil ?_
    refine wp_if (b := x6) rfl h (fun hb17 h => ?_) (fun hb17 h => ?_)
    · refine wp_seq ?_
      refine wp_text [0, 1] rfl ?_
      refine rv 4 rfl rfl rfl (q_assign (v := tSlc.enc ((⟨none, 0, 0⟩ : Slc))) rfl rfl) ?_
      refine rv 5 rfl rfl rfl (q_assign (v := .int .i64 ((71 : Int))) rfl rfl) ?_
      refine ro_nil ?_
      refine wp_ret ?_
      exact ret_ok rfl (.cons (.tmp (v := tSlc.enc ((⟨none, 0, 0⟩ : Slc))) rfl) (.cons (.tmp (v := .int .i64 ((71 : Int))) rfl) .nil)) ⟨((⟨none, 0, 0⟩ : Slc), (71 : Int)), rfl, h⟩
    · refine wp_skip ?_
      refine wp_seq ?_
      refine wp_text [0, 1, 2, 3, 4, 5, 6, 7, 8, 9, 10] rfl ?_
      refine rv 17 rfl rfl rfl (q_move (v := .pointer (d_1)) rfl rfl) ?_
      refine rv 18 rfl rfl rfl (q_nilCheck (a := a5) rfl (congrArg Value.pointer ha5)) ?_
      refine rv 19 rfl rfl rfl (q_fieldAddr (a := a5) (off := 0) rfl Try.underlying80 rfl rfl ok78 (by decide) rfl) ?_
      obtain ⟨x7, hx7, h⟩ := h
      refine rv 20 rfl rfl rfl (q_load (T := tSlc) (u := x7) (a := (a5.add 0)) rfl ok78 rfl hx7) ?_
      refine rv 21 rfl rfl rfl (q_move (v := .int .i64 (n_2)) rfl rfl) ?_
      obtain ⟨a8, ha8, h⟩ := h
      refine rv 22 rfl rfl rfl (q_indexAddr (s := x7) (i := n_2) rfl Try.underlying78 ok102 rfl rfl ha8) ?_
      refine rv 23 rfl rfl rfl (q_fieldAddr (a := a8) (off := 0) rfl Try.underlying102 rfl rfl ok72 (by decide) rfl) ?_
      obtain ⟨x9, hx9, h⟩ := h
      refine rv 24 rfl rfl rfl (q_load (T := tSlc) (u := x9) (a := (a8.add 0)) rfl ok72 rfl hx9) ?_
      refine rv 25 rfl rfl rfl (q_len (s := x9) rfl Try.underlying72 rfl) ?_
      refine ro_wp rfl (.free rfl) (wp_mkS (T := (tInt .u8)) (z := (0 : Int)) (l := (x9.len : Int)) (c := (x9.len : Int)) (d := (some 26)) rfl rfl Try.underlying72 ok5 inf5 rfl rfl h ?_)
      intro r11 w10 h
      refine rv 6 rfl rfl rfl (q_assign (v := tSlc.enc (r11)) rfl rfl) ?_
      refine ro_nil ?_
      refine wp_seq ?_
      refine wp_text [0, 1, 2, 3, 4, 5, 6, 7, 8, 9] rfl ?_
      refine rv 27 rfl rfl rfl (q_move (v := tSlc.enc (r11)) rfl rfl) ?_
      refine rv 28 rfl rfl rfl (q_move (v := .pointer (d_1)) rfl rfl) ?_
      refine rv 29 rfl rfl rfl (q_nilCheck (a := a5) rfl (congrArg Value.pointer ha5)) ?_
      refine rv 30 rfl rfl rfl (q_fieldAddr (a := a5) (off := 0) rfl Try.underlying80 rfl rfl ok78 (by decide) rfl) ?_
      obtain ⟨x12, hx12, h⟩ := h
      refine rv 31 rfl rfl rfl (q_load (T := tSlc) (u := x12) (a := (a5.add 0)) rfl ok78 rfl hx12) ?_
      refine rv 32 rfl rfl rfl (q_move (v := .int .i64 (n_2)) rfl rfl) ?_
      obtain ⟨a13, ha13, h⟩ := h
      refine rv 33 rfl rfl rfl (q_indexAddr (s := x12) (i := n_2) rfl Try.underlying78 ok102 rfl rfl ha13) ?_
      refine rv 34 rfl rfl rfl (q_fieldAddr (a := a13) (off := 0) rfl Try.underlying102 rfl rfl ok72 (by decide) rfl) ?_
      obtain ⟨x14, hx14, h⟩ := h
      refine rv 35 rfl rfl rfl (q_load (T := tSlc) (u := x14) (a := (a13.add 0)) rfl ok72 rfl hx14) ?_
      refine ro_wp rfl (.free rfl) (wp_cpy (T := (tInt .u8)) (s := r11) (b := x14) (d := (some 36)) rfl rfl Try.underlying72 ok5 rfl rfl h ?_)
      intro r16 w15 h
      refine ro_nil ?_
      refine wp_seq ?_
      refine wp_text [0, 1, 2] rfl ?_
      refine rv 37 rfl rfl rfl (q_move (v := tSlc.enc (r11)) rfl rfl) ?_
      refine rv 4 rfl rfl rfl (q_assign (v := tSlc.enc (r11)) rfl rfl) ?_
      refine rv 5 rfl rfl rfl (q_assign (v := .int .i64 ((0 : Int))) rfl rfl) ?_
      refine ro_nil ?_
      refine wp_ret ?_
      exact ret_ok rfl (.cons (.tmp (v := tSlc.enc (r11)) rfl) (.cons (.tmp (v := .int .i64 ((0 : Int))) rfl) .nil)) ⟨(r11, (0 : Int)), rfl, h⟩

-- moiety/frame.Scan
def F35_l1 (b_1 : Slc) (l_2 : Slc) (at_3 : Int) (w4 : World) (K5 : Slc × Int → World → Prop) (R : (Slc × Int) → World → Prop) : Prop :=
  ex (Sub b_1 1 at_3 ((b_1).len : Int) ((b_1).cap : Int)) fun s6 =>
  cl Try.prog 48 [tSlc.enc (s6)] (tTup3 tSlc (tInt .i64) (tInt .i64)) w4 fun r8 w7 =>
  if (r8.2.2 != (0 : Int)) = true then (
    R (l_2, at_3) w7
  ) else (
    apl 72 tSlc 1 24 l_2 [r8.1] w7 fun r12 w11 =>
    K5 (r12, (IntKind.i64.wrap (at_3 + r8.2.1))) w11
  )
def F35 (b_1 : Slc) (w : World) (R : (Slc × Int) → World → Prop) : Prop :=
  lp (fun (s : Slc × Int) w K => F35_l1 b_1 s.1 s.2 w K R) ((⟨none, 0, 0⟩ : Slc), (0 : Int)) w
theorem F35_ok {b_1 : Slc} {w : World} {R : (Slc × Int) → World → Prop} (h : F35 b_1 w R) : cl Try.prog 35 [tSlc.enc (b_1)] (tTup2 tSlc (tInt .i64)) w R := by
  unfold F35 at h
  refine calls_start 28 Try.func35 rfl rfl (Nat.le_of_ble_eq_true rfl) ?_
  refine wp_seq ?_
  refine wp_text [0, 1] rfl ?_
  refine rv 2 rfl rfl rfl (q_assign (v := tSlc.enc ((⟨none, 0, 0⟩ : Slc))) rfl rfl) ?_
  refine rv 3 rfl rfl rfl (q_assign (v := .int .i64 ((0 : Int))) rfl rfl) ?_
  refine ro_nil ?_
  refine wp_seq ?_
  refine wp_text [0] rfl ?_
  refine rv 4 rfl rfl rfl (q_assign (v := tSlc.enc ((⟨none, 0, 0⟩ : Slc))) rfl rfl) ?_
  refine ro_nil ?_
  refine wp_seq ?_
  refine wp_text [0] rfl ?_
  refine rv 5 rfl rfl rfl (q_assign (v := .int .i64 ((0 : Int))) rfl rfl) ?_
  refine ro_nil ?_
  refine wp_block ?_
  refine loop_at (σ := Slc × Int) (fr := fun g (s : Slc × Int) => upd (upd (upd (g) 0 (tSlc.enc (b_1))) 4 (tSlc.enc (s.1))) 5 (.int .i64 (s.2))) (s0 := ((⟨none, 0, 0⟩ : Slc), (0 : Int))) (upd_step (upd_step (upd_step rfl rfl) rfl) rfl) h ?_
  rintro ⟨l_2, at_3⟩ g w4 K5 h
  unfold F35_l1 at h
  refine wp_block ?_
  refine wp_seq ?_
  refine wp_text [0, 1, 2, 3, 4, 5, 6, 7, 8, 9, 10] rfl ?_
  refine rv 10 rfl rfl rfl (q_move (v := tSlc.enc (b_1)) rfl rfl) ?_
  refine rv 11 rfl rfl rfl (q_move (v := .int .i64 (at_3)) rfl rfl) ?_
  obtain ⟨s6, hs6, h⟩ := h
  refine rv 12 rfl rfl rfl (q_sliceL (s := b_1) (l := at_3) rfl Try.underlying72 ok5 rfl rfl hs6) ?_
  refine ro_wp rfl (.free rfl) (wp_cl (d := (some 13)) rfl (q_call (k := 48) (l := [tSlc.enc (s6)]) rfl ent48 rfl) h ?_)
  intro r8 w7 h
  refine rv 9 rfl rfl rfl (q_move (v := (tTup3 tSlc (tInt .i64) (tInt .i64)).enc (r8)) rfl rfl) ?_
  refine rv 14 rfl rfl rfl (q_extract (vs := #[tSlc.enc (r8.1), .int .i64 (r8.2.1), .int .i64 (r8.2.2)]) (v := tSlc.enc (r8.1)) rfl rfl rfl) ?_
  refine rv 15 rfl rfl rfl (q_extract (vs := #[tSlc.enc (r8.1), .int .i64 (r8.2.1), .int .i64 (r8.2.2)]) (v := .int .i64 (r8.2.1)) rfl rfl rfl) ?_
  refine rv 16 rfl rfl rfl (q_extract (vs := #[tSlc.enc (r8.1), .int .i64 (r8.2.1), .int .i64 (r8.2.2)]) (v := .int .i64 (r8.2.2)) rfl rfl rfl) ?_
  refine rv 6 rfl rfl rfl (q_assign (v := tSlc.enc (r8.1)) rfl rfl) ?_
  refine rv 7 rfl rfl rfl (q_assign (v := .int .i64 (r8.2.1)) rfl rfl) ?_
  refine rv 8 rfl rfl rfl (q_assign (v := .int .i64 (r8.2.2)) rfl rfl) ?_
  refine ro_nil ?_
  refine wp_seq ?_
  refine wp_seq ?_
  refine wp_text [0, 1] rfl ?_
  refine rv 17 rfl rfl rfl (q_move (v := .int .i64 (r8.2.2)) rfl rfl) ?_
  refine rv 18 rfl rfl rfl (q_neq (a := r8.2.2) (b := (0 : Int)) rfl rfl rfl) ?_
  refine ro_nil ?_
  refine wp_if (b := (r8.2.2 != (0 : Int))) rfl h (fun hb13 h => ?_) (fun hb13 h => ?_)
  · refine wp_seq ?_
    refine wp_text [0, 1, 2, 3] rfl ?_
    refine rv 19 rfl rfl rfl (q_move (v := tSlc.enc (l_2)) rfl rfl) ?_
    refine rv 20 rfl rfl rfl (q_move (v := .int .i64 (at_3)) rfl rfl) ?_
    refine rv 2 rfl rfl rfl (q_assign (v := tSlc.enc (l_2)) rfl rfl) ?_
    refine rv 3 rfl rfl rfl (q_assign (v := .int .i64 (at_3)) rfl rfl) ?_
    refine ro_nil ?_
    refine wp_ret ?_
    exact ret_ok rfl (.cons (.tmp (v := tSlc.enc (l_2)) rfl) (.cons (.tmp (v := .int .i64 (at_3)) rfl) .nil)) ⟨(l_2, at_3), rfl, h⟩
  · refine wp_skip ?_
    refine wp_text [0, 1, 2, 3, 4, 5, 6, 7, 8] rfl ?_
    refine rv 21 rfl rfl rfl (q_move (v := tSlc.enc (l_2)) rfl rfl) ?_
    refine rv 22 rfl rfl rfl (q_move (v := tSlc.enc (r8.1)) rfl rfl) ?_
    obtain ⟨a9, w10, ha9, hw10, h⟩ := apl_open h
    refine rv 23 rfl rfl rfl (q_rowOf (T := tSlc) (xs := [r8.1]) rfl Try.underlying81 ok72 inf72 rfl (by decide) (by decide) rfl ha9 hw10) ?_
    refine ro_wp rfl (.free rfl) (wp_append (d := (some 24)) (T := tSlc) rfl rfl Try.underlying81 ⟨_, Try.underlying81⟩ ok72 inf72 rfl rfl (Nat.lt_of_lt_of_le Nat.zero_lt_one (Nat.le_of_ble_eq_true rfl)) rfl rfl h ?_)
    intro r12 w11 h
    refine rv 25 rfl rfl rfl (q_move (v := .int .i64 (at_3)) rfl rfl) ?_
    refine rv 26 rfl rfl rfl (q_move (v := .int .i64 (r8.2.1)) rfl rfl) ?_
    refine rv 27 rfl rfl rfl (q_add (a := at_3) (b := r8.2.1) rfl rfl rfl) ?_
    refine rv 4 rfl rfl rfl (q_assign (v := tSlc.enc (r12)) rfl rfl) ?_
    refine rv 5 rfl rfl rfl (q_assign (v := .int .i64 ((IntKind.i64.wrap (at_3 + r8.2.1)))) rfl rfl) ?_
    refine ro_nil ?_
    exact ⟨(r12, (IntKind.i64.wrap (at_3 + r8.2.1))), _, arr (upd_step (upd_step (upd_step rfl rfl) rfl) rfl), h⟩

-- (*moiety/disk.Disk).Swap
def F36 (d_1 : (Option Addr)) (n_2 : Int) (b_3 : Slc) (w : World) (R : Int → World → Prop) : Prop :=
  nw 72 tSlc b_3 w fun a4 w5 =>
  ex (RdAt tSlc a4 w5) fun x6 =>
  cl Try.prog 42 [.pointer (d_1), .int .i64 (n_2), .int .i64 ((x6.len : Int)), ((Fv.mk (.func 49) (List.toArray []) (List.toArray [.pointer (some a4)]))).enc] (tInt .i64) w5 fun r8 w7 =>
  R r8 w7
theorem F36_ok {d_1 : (Option Addr)} {n_2 : Int} {b_3 : Slc} {w : World} {R : Int → World → Prop} (h : F36 d_1 n_2 b_3 w R) : cl Try.prog 36 [.pointer (d_1), .int .i64 (n_2), tSlc.enc (b_3)] (tInt .i64) w R := by
  unfold F36 at h
  refine calls_start 13 Try.func36 rfl rfl (Nat.le_of_ble_eq_true rfl) ?_
  refine wp_seq ?_
  refine wp_text [0, 1] rfl ?_
  obtain ⟨a4, w5, ha4, hw5, h⟩ := nw_open h
  refine rv 5 rfl rfl rfl (q_box (u := b_3) rfl ok72 rfl ha4 hw5) ?_
  refine rv 6 rfl rfl rfl (q_assign (v := .int .i64 ((0 : Int))) rfl rfl) ?_
  refine ro_nil ?_
  refine wp_seq ?_
  refine wp_text [0, 1, 2, 3, 4, 5, 6] rfl ?_
  refine rv 7 rfl rfl rfl (q_move (v := .pointer (d_1)) rfl rfl) ?_
  refine rv 8 rfl rfl rfl (q_move (v := .int .i64 (n_2)) rfl rfl) ?_
  obtain ⟨x6, hx6, h⟩ := h
  refine rv 9 rfl rfl rfl (q_load (T := tSlc) (u := x6) (a := a4) rfl ok72 rfl hx6) ?_
  refine rv 10 rfl rfl rfl (q_len (s := x6) rfl Try.underlying72 rfl) ?_
  refine rv 11 rfl rfl rfl (q_makeFunc (fn := .func 49) (va := []) (vc := [.pointer (some a4)]) rfl rfl rfl) ?_
  refine ro_wp rfl (.free rfl) (wp_cl (d := (some 12)) rfl (q_call (k := 42) (l := [.pointer (d_1), .int .i64 (n_2), .int .i64 ((x6.len : Int)), ((Fv.mk (.func 49) (List.toArray []) (List.toArray [.pointer (some a4)]))).enc]) rfl ent42 rfl) h ?_)
  intro r8 w7 h
  refine rv 6 rfl rfl rfl (q_assign (v := .int .i64 (r8)) rfl rfl) ?_
  refine ro_nil ?_
  refine wp_ret ?_
  exact ret_ok rfl (.cons (.tmp (v := .int .i64 (r8)) rfl) .nil) ⟨r8, rfl, h⟩

-- (*moiety/disk.Disk).Sure
def F37 (d_1 : (Option Addr)) (n_2 : Int) (w : World) (R : Int → World → Prop) : Prop :=
  cl Try.prog 47 [.pointer (d_1), .int .i64 (n_2)] tBool w fun r4 w3 =>
  if (!r4) = true then (
    R (0 : Int) w3
  ) else (
    ex (NC d_1) fun a5 =>
    ex (RdAt tSlc (a5.add 0) w3) fun x6 =>
    ex (IxA x6 2 n_2) fun a7 =>
    ex (RdAt (tInt .i64) (a7.add 1) w3) fun x8 =>
    R x8 w3
  )
theorem F37_ok {d_1 : (Option Addr)} {n_2 : Int} {w : World} {R : Int → World → Prop} (h : F37 d_1 n_2 w R) : cl Try.prog 37 [.pointer (d_1), .int .i64 (n_2)] (tInt .i64) w R := by
  unfold F37 at h
  refine calls_start 17 Try.func37 rfl rfl (Nat.le_of_ble_eq_true rfl) ?_
  refine wp_seq ?_
  refine wp_text [0] rfl ?_
  refine rv 4 rfl rfl rfl (q_assign (v := .int .i64 ((0 : Int))) rfl rfl) ?_
  refine ro_nil ?_
  refine wp_seq ?_
  refine wp_seq ?_
  refine wp_text [0, 1, 2, 3] rfl ?_
  refine rv 5 rfl rfl rfl (q_move (v := .pointer (d_1)) rfl rfl) ?_
  refine rv 6 rfl rfl rfl (q_move (v := .int .i64 (n_2)) rfl rfl) ?_
  refine ro_wp rfl (.free rfl) (wp_cl (d := (some 7)) rfl (q_call (k := 47) (l := [.pointer (d_1), .int .i64 (n_2)]) rfl ent47 rfl) h ?_)
  intro r4 w3 h
  refine rv 8 rfl rfl rfl (q_not (b := r4) rfl rfl) ?_
  refine ro_nil ?_
  refine wp_if (b := (!r4)) rfl h (fun hb9 h => ?_) (fun hb9 h => ?_)
  · refine wp_seq ?_
    refine wp_text [0] rfl ?_
    refine rv 4 rfl rfl rfl (q_assign (v := .int .i64 ((0 : Int))) rfl rfl) ?_
    refine ro_nil ?_
    refine wp_ret ?_
    exact ret_ok rfl (.cons (.tmp (v := .int .i64 ((0 : Int))) rfl) .nil) ⟨(0 : Int), rfl, h⟩
  · refine wp_skip ?_
    refine wp_seq ?_
    refine wp_text [0, 1, 2, 3, 4, 5, 6, 7, 8] rfl ?_
    refine rv 9 rfl rfl rfl (q_move (v := .pointer (d_1)) rfl rfl) ?_
    obtain ⟨a5, ha5, h⟩ := h
    refine rv 10 rfl rfl rfl (q_nilCheck (a := a5) rfl (congrArg Value.pointer ha5)) ?_
    refine rv 11 rfl rfl rfl (q_fieldAddr (a := a5) (off := 0) rfl Try.underlying80 rfl rfl ok78 (by decide) rfl) ?_
    obtain ⟨x6, hx6, h⟩ := h
    refine rv 12 rfl rfl rfl (q_load (T := tSlc) (u := x6) (a := (a5.add 0)) rfl ok78 rfl hx6) ?_
    refine rv 13 rfl rfl rfl (q_move (v := .int .i64 (n_2)) rfl rfl) ?_
    obtain ⟨a7, ha7, h⟩ := h
    refine rv 14 rfl rfl rfl (q_indexAddr (s := x6) (i := n_2) rfl Try.underlying78 ok102 rfl rfl ha7) ?_
    refine rv 15 rfl rfl rfl (q_fieldAddr (a := a7) (off := 1) rfl Try.underlying102 rfl rfl ok3 (by decide) rfl) ?_
    obtain ⟨x8, hx8, h⟩ := h
    refine rv 16 rfl rfl rfl (q_load (T := (tInt .i64)) (u := x8) (a := (a7.add 1)) rfl ok3 rfl hx8) ?_
    refine rv 4 rfl rfl rfl (q_assign (v := .int .i64 (x8)) rfl rfl) ?_
    refine ro_nil ?_
    refine wp_ret ?_
    exact ret_ok rfl (.cons (.tmp (v := .int .i64 (x8)) rfl) .nil) ⟨x8, rfl, h⟩

-- moiety/wire.Unpack
def F38_p (a10 : Addr) (a2 : Addr) (a4 : Addr) (a6 : Addr) (R : (Slc × Int × Int) → World → Prop) (v : Iv) (w : World) : Prop :=
  lvd Try.prog 50 [.pointer (some a10), .pointer (some a2), .pointer (some a4), .pointer (some a6)] (.panicking (pnc v)) w fun wD =>
  ex (RdAt tSlc a2 wD) fun y0 =>
  ex (RdAt (tInt .i64) a4 wD) fun y1 =>
  ex (RdAt (tInt .i64) a6 wD) fun y2 =>
  R (y0, y1, y2) wD
def F38_l1 (b_1 : Slc) (a2 : Addr) (a4 : Addr) (a6 : Addr) (a8 : Addr) (a10 : Addr) (w13 : World) (K14 : Unit → World → Prop) (R : (Slc × Int × Int) → World → Prop) : Prop :=
  ex (RdAt (tInt .i64) (a8.add 1) w13) fun x15 =>
  if (decide (x15 < (b_1.len : Int))) = true then (
    ex (RdAt (tInt .i64) (a8.add 1) w13) fun x16 =>
    st (tInt .i64) a10 x16 w13 fun w17 =>
    ex (RdAt tSlc a2 w17) fun x18 =>
    if ((x18.len : Int) == (1000 : Int)) = true then (
      (F38_p a10 a2 a4 a6 R) (Iv.mk 127 (T126.enc ((⟨(20 : Int)⟩ : S126)))) w17
    ) else (
      dr w17 fun w19 =>
      ex (RdAt tSlc a2 w19) fun x20 =>
      clp Try.prog 51 [.pointer ((some a8))] T90 w19 (F38_p a10 a2 a4 a6 R) fun r22 w21 =>
      kp ((RdAt tSlc a2 w21) x20) <|
      apl 91 T90 5 48 x20 [r22] w21 fun r27 w26 =>
      st tSlc a2 r27 w26 fun w28 =>
      K14 () w28
    )
  ) else (
    ex (RdAt tSlc a2 w13) fun x30 =>
    st tSlc a2 x30 w13 fun w31 =>
    st (tInt .i64) a4 (0 : Int) w31 fun w32 =>
    st (tInt .i64) a6 (0 : Int) w32 fun w33 =>
    lvd Try.prog 50 [.pointer (some a10), .pointer (some a2), .pointer (some a4), .pointer (some a6)] .returning w33 fun wD =>
    ex (RdAt tSlc a2 wD) fun y0 =>
    ex (RdAt (tInt .i64) a4 wD) fun y1 =>
    ex (RdAt (tInt .i64) a6 wD) fun y2 =>
    R (y0, y1, y2) wD
  )
def F38 (b_1 : Slc) (w : World) (R : (Slc × Int × Int) → World → Prop) : Prop :=
  nw 113 tSlc (⟨none, 0, 0⟩ : Slc) w fun a2 w3 =>
  nw 3 (tInt .i64) (0 : Int) w3 fun a4 w5 =>
  nw 31 (tInt .i64) (0 : Int) w5 fun a6 w7 =>
  nw 125 T124 (⟨b_1, (0 : Int)⟩ : S124) w7 fun a8 w9 =>
  nw 3 (tInt .i64) (0 : Int) w9 fun a10 w11 =>
  st (tInt .i64) a10 (0 : Int) w11 fun w12 =>
  lp (fun (s : Unit) w K => F38_l1 b_1 a2 a4 a6 a8 a10 w K R) () w12
theorem F38_ok {b_1 : Slc} {w : World} {R : (Slc × Int × Int) → World → Prop} (h : F38 b_1 w R) : cl Try.prog 38 [tSlc.enc (b_1)] (tTup3 tSlc (tInt .i64) (tInt .i64)) w R := by
  unfold F38 at h
  refine calls_startE (sl := [2, 3, 4]) 33 Try.func38 rfl rfl (Nat.le_of_ble_eq_true rfl) ?_
  refine wp_seq ?_
  refine wp_text [0, 1, 2] rfl ?_
  obtain ⟨a2, w3, ha2, hw3, h⟩ := nw_open h
  refine rv 2 rfl rfl rfl (q_alloc (u := (⟨none, 0, 0⟩ : Slc)) rfl ok113 inf113 ha2 hw3) ?_
  obtain ⟨a4, w5, ha4, hw5, h⟩ := nw_open h
  refine rv 3 rfl rfl rfl (q_alloc (u := (0 : Int)) rfl ok3 inf3 ha4 hw5) ?_
  obtain ⟨a6, w7, ha6, hw7, h⟩ := nw_open h
  refine rv 4 rfl rfl rfl (q_alloc (u := (0 : Int)) rfl ok31 inf31 ha6 hw7) ?_
  refine ro_nil ?_
  refine wp_seq ?_
  refine wp_text [0, 1, 2, 3] rfl ?_
  refine rv 7 rfl rfl rfl (q_move (v := tSlc.enc (b_1)) rfl rfl) ?_
  refine rv 8 rfl rfl rfl (q_build125_0 (v0 := b_1) rfl rfl) ?_
  obtain ⟨a8, w9, ha8, hw9, h⟩ := nw_open h
  refine rv 9 rfl rfl rfl (q_box (u := (⟨b_1, (0 : Int)⟩ : S124)) rfl ok125 rfl ha8 hw9) ?_
  refine rv 5 rfl rfl rfl (q_assign (v := .pointer (some a8)) rfl rfl) ?_
  refine ro_nil ?_
  refine wp_seq ?_
  refine wp_text [0, 1] rfl ?_
  obtain ⟨a10, w11, ha10, hw11, h⟩ := nw_open h
  refine rv 6 rfl rfl rfl (q_alloc (u := (0 : Int)) rfl ok3 inf3 ha10 hw11) ?_
  obtain ⟨w12, hw12, hrw12, h⟩ := st_open h
  refine ro_skip (d := none) rfl (.free rfl) rfl (q_store (T := (tInt .i64)) (u := (0 : Int)) (a := a10) rfl ok3 rfl rfl hrw12 hw12) ?_
  refine ro_nil ?_
  refine wp_seq ?_
  refine wp_text [0, 1] rfl ?_
  refine rv 10 rfl rfl rfl (q_makeFunc (fn := .func 50) (va := []) (vc := [.pointer (some a10), .pointer (some a2), .pointer (some a4), .pointer (some a6)]) rfl rfl rfl) ?_
  refine ro_wp rfl (.free rfl) (wp_defer (k := 50) (cs := [.pointer (some a10), .pointer (some a2), .pointer (some a4), .pointer (some a6)]) (d := none) rfl rfl rfl ?_)
  refine ro_nil ?_
  refine wp_seq ?_
  refine wp_block ?_
  refine loop_at (σ := Unit) (fr := fun g (s : Unit) => upd (upd (upd (upd (upd (upd (g) 0 (tSlc.enc (b_1))) 2 (.pointer (some a2))) 3 (.pointer (some a4))) 4 (.pointer (some a6))) 5 (.pointer ((some a8)))) 6 (.pointer (some a10))) (s0 := ()) (upd_step (upd_step (upd_step (upd_step (upd_step (upd_step rfl rfl) rfl) rfl) rfl) rfl) rfl) h ?_
  rintro ⟨⟩ g w13 K14 h
  unfold F38_l1 at h
  refine wp_seq ?_
  refine wp_seq ?_
  refine wp_text [0, 1, 2, 3, 4, 5, 6] rfl ?_
  refine rv 11 rfl rfl rfl (q_move (v := .pointer ((some a8))) rfl rfl) ?_
  refine rv 12 rfl rfl rfl (q_nilCheck (a := a8) rfl rfl) ?_
  refine rv 13 rfl rfl rfl (q_fieldAddr (a := a8) (off := 1) rfl Try.underlying125 rfl rfl ok3 (by decide) rfl) ?_
  obtain ⟨x15, hx15, h⟩ := h
  refine rv 14 rfl rfl rfl (q_load (T := (tInt .i64)) (u := x15) (a := (a8.add 1)) rfl ok3 rfl hx15) ?_
  refine rv 15 rfl rfl rfl (q_move (v := tSlc.enc (b_1)) rfl rfl) ?_
  refine rv 16 rfl rfl rfl (q_len (s := b_1) rfl Try.underlying72 rfl) ?_
  refine rv 17 rfl rfl rfl (q_lss (a := x15) (b := (b_1.len : Int)) rfl rfl rfl) ?_
  refine ro_nil ?_
  refine wp_if (b := (decide (x15 < (b_1.len : Int)))) rfl h (fun hb34 h => ?_) (fun hb34 h => ?_)
  · refine wp_skip ?_
    refine wp_block ?_
    refine wp_seq ?_
    refine wp_text [0, 1, 2, 3, 4] rfl ?_
    refine rv 18 rfl rfl rfl (q_move (v := .pointer ((some a8))) rfl rfl) ?_
    refine rv 19 rfl rfl rfl (q_nilCheck (a := a8) rfl rfl) ?_
    refine rv 20 rfl rfl rfl (q_fieldAddr (a := a8) (off := 1) rfl Try.underlying125 rfl rfl ok3 (by decide) rfl) ?_
    obtain ⟨x16, hx16, h⟩ := h
    refine rv 21 rfl rfl rfl (q_load (T := (tInt .i64)) (u := x16) (a := (a8.add 1)) rfl ok3 rfl hx16) ?_
    obtain ⟨w17, hw17, hrw17, h⟩ := st_open h
    refine ro_skip (d := none) rfl (.free rfl) rfl (q_store (T := (tInt .i64)) (u := x16) (a := a10) rfl ok3 rfl rfl hrw17 hw17) ?_
    refine ro_nil ?_
    refine wp_seq ?_
    refine wp_seq ?_
    refine wp_text [0, 1, 2] rfl ?_
    obtain ⟨x18, hx18, h⟩ := h
    refine rv 22 rfl rfl rfl (q_load (T := tSlc) (u := x18) (a := a2) rfl ok113 rfl hx18) ?_
    refine rv 23 rfl rfl rfl (q_len (s := x18) rfl Try.underlying113 rfl) ?_
    refine rv 24 rfl rfl rfl (q_eql (a := (x18.len : Int)) (b := (1000 : Int)) rfl rfl rfl) ?_
    refine ro_nil ?_
    refine wp_if (b := ((x18.len : Int) == (1000 : Int))) rfl h (fun hb29 h => ?_) (fun hb29 h => ?_)
    · refine wp_text [0, 1, 2] rfl ?_
      refine rv 25 rfl rfl rfl (q_build127_0 (v0 := (20 : Int)) rfl rfl) ?_
      refine rv 26 rfl rfl rfl (q_mkI (v := T126.enc ((⟨(20 : Int)⟩ : S126))) rfl Try.underlying127 rfl rfl) ?_
      refine ro_wp rfl (.free rfl) (wp_panic (v := (Iv.mk 127 (T126.enc ((⟨(20 : Int)⟩ : S126))))) rfl rfl ⟨_, _, rfl⟩ ?_)
      unfold F38_p at h
      refine pan_D (rs := [.cell 2 113, .cell 3 3, .cell 4 31]) rfl ent50 (lvd_mono h fun wD h => ?_)
      obtain ⟨y0, hy0, h⟩ := h
      obtain ⟨y1, hy1, h⟩ := h
      obtain ⟨y2, hy2, h⟩ := h
      exact ⟨_, (.cons (.cell (T := tSlc) (u := y0) (a := a2) ok113 rfl hy0) (.cons (.cell (T := (tInt .i64)) (u := y1) (a := a4) ok3 rfl hy1) (.cons (.cell (T := (tInt .i64)) (u := y2) (a := a6) ok31 rfl hy2) .nil))), ⟨(y0, y1, y2), rfl, h⟩⟩
    · refine wp_skip ?_
      obtain ⟨w19, hw19, h⟩ := dr_open h
      refine wp_drawnE 6 mixed rfl (by kernel_rfl) (fun c a d v w hd h => panE_put (sl := [2, 3, 4]) (dst_ok (by kernel_rfl) hd) h) hw19 (fun hD => ?_)
      refine rp 1 28 hD rfl rfl rfl (fun _ => q_move (v := .pointer ((some a8))) rfl rfl) ?_
      obtain ⟨x20, hx20, h⟩ := h
      refine rd_read (i := 0) (d := (some 27)) (fun W => (RdAt tSlc a2 W) x20) hD (by kernel_rfl) (by kernel_rfl) rfl (.free rfl) rfl (fun W hr => q_load (T := tSlc) (u := x20) (a := a2) rfl ok113 rfl hr) hx20 ?_
      refine rd_one (i := 2) (by kernel_rfl) ?_
      refine po_wp rfl (.free rfl) (wp_clp (d := (some 29)) rfl (q_call (k := 51) (l := [.pointer ((some a8))]) rfl ent51 rfl) h ?_ ?_)
      · intro _ _ h
        unfold F38_p at h
        refine pan_D (rs := [.cell 2 113, .cell 3 3, .cell 4 31]) rfl ent50 (lvd_mono h fun wD h => ?_)
        obtain ⟨y0, hy0, h⟩ := h
        obtain ⟨y1, hy1, h⟩ := h
        obtain ⟨y2, hy2, h⟩ := h
        exact ⟨_, (.cons (.cell (T := tSlc) (u := y0) (a := a2) ok113 rfl hy0) (.cons (.cell (T := (tInt .i64)) (u := y1) (a := a4) ok3 rfl hy1) (.cons (.cell (T := (tInt .i64)) (u := y2) (a := a6) ok31 rfl hy2) .nil))), ⟨(y0, y1, y2), rfl, h⟩⟩
      intro r22 w21 h
      obtain ⟨hk23, h⟩ := h
      refine ⟨(hk_keep (fun _ => hk23) hk_nil), ?_⟩
      refine rd_one (i := 3) (by kernel_rfl) ?_
      obtain ⟨a24, w25, ha24, hw25, h⟩ := apl_open h
      refine po_val (d := (some 30)) rfl (.free rfl) rfl (q_rowOf (T := T90) (xs := [r22]) rfl Try.underlying113 ok91 inf91 rfl (by decide) (by decide) rfl ha24 hw25) ⟨(hk_keep (fun h => keep_RdAt hw25 h) hk_nil), ?_⟩
      refine rd_one (i := 4) (by kernel_rfl) ?_
      refine po_wp rfl (.free rfl) (wp_append (d := (some 31)) (T := T90) rfl rfl Try.underlying113 ⟨_, Try.underlying113⟩ ok91 inf91 rfl rfl (Nat.lt_of_lt_of_le Nat.zero_lt_one (Nat.le_of_ble_eq_true rfl)) rfl rfl h ?_)
      intro r27 w26 h
      refine ⟨(hk_wait (by kernel_rfl) hk_nil), ?_⟩
      refine rd_one (i := 5) (by kernel_rfl) ?_
      obtain ⟨w28, hw28, hrw28, h⟩ := st_open h
      refine po_skip (d := none) rfl (.free rfl) rfl (q_store (T := tSlc) (u := r27) (a := a2) rfl ok113 rfl rfl hrw28 hw28) ⟨(hk_wait (by kernel_rfl) hk_nil), ?_⟩
      refine rd_nil (by kernel_rfl) ?_
      exact ⟨(), _, arr (upd_step (upd_step (upd_step (upd_step (upd_step (upd_step rfl rfl) rfl) rfl) rfl) rfl) rfl), h⟩
  · refine wp_exit ?_
    refine wp_seq ?_
    refine wp_text [0, 1, 2, 3] rfl ?_
    obtain ⟨x30, hx30, h⟩ := h
    refine rv 32 rfl rfl rfl (q_load (T := tSlc) (u := x30) (a := a2) rfl ok113 rfl hx30) ?_
    obtain ⟨w31, hw31, hrw31, h⟩ := st_open h
    refine ro_skip (d := none) rfl (.free rfl) rfl (q_store (T := tSlc) (u := x30) (a := a2) rfl ok113 rfl rfl hrw31 hw31) ?_
    obtain ⟨w32, hw32, hrw32, h⟩ := st_open h
    refine ro_skip (d := none) rfl (.free rfl) rfl (q_store (T := (tInt .i64)) (u := (0 : Int)) (a := a4) rfl ok3 rfl rfl hrw32 hw32) ?_
    obtain ⟨w33, hw33, hrw33, h⟩ := st_open h
    refine ro_skip (d := none) rfl (.free rfl) rfl (q_store (T := (tInt .i64)) (u := (0 : Int)) (a := a6) rfl ok31 rfl rfl hrw33 hw33) ?_
    refine ro_nil ?_
    refine wp_ret ?_
    refine ret_D (rs := [.cell 2 113, .cell 3 3, .cell 4 31]) rfl ent50 (lvd_mono h fun wD h => ?_)
    obtain ⟨y0, hy0, h⟩ := h
    obtain ⟨y1, hy1, h⟩ := h
    obtain ⟨y2, hy2, h⟩ := h
    exact ⟨_, (.cons (.cell (T := tSlc) (u := y0) (a := a2) ok113 rfl hy0) (.cons (.cell (T := (tInt .i64)) (u := y1) (a := a4) ok3 rfl hy1) (.cons (.cell (T := (tInt .i64)) (u := y2) (a := a6) ok31 rfl hy2) .nil))), ⟨(y0, y1, y2), rfl, h⟩⟩

-- moiety/ballot.number
def F39 (b_1 : Int) (w : World) (R : Bool → World → Prop) : Prop :=
  R ((decide (b_1 ≥ (1 : Int))) && (decide (b_1 ≤ (1099511627776 : Int)))) w
theorem F39_ok {b_1 : Int} {w : World} {R : Bool → World → Prop} (h : F39 b_1 w R) : cl Try.prog 39 [.int .i64 (b_1)] tBool w R := by
  unfold F39 at h
  refine calls_start 9 Try.func39 rfl rfl (Nat.le_of_ble_eq_true rfl) ?_
  refine wp_seq ?_
  refine wp_text [0] rfl ?_
  refine rv 2 rfl rfl rfl (q_assign (v := .bool (false)) rfl rfl) ?_
  refine ro_nil ?_
  refine wp_seq ?_
  refine wp_text [0, 1, 2, 3, 4, 5, 6] rfl ?_
  refine rv 3 rfl rfl rfl (q_move (v := .int .i64 (b_1)) rfl rfl) ?_
  refine rv 4 rfl rfl rfl (q_geq (a := b_1) (b := (1 : Int)) rfl rfl rfl) ?_
  refine rv 5 rfl rfl rfl (q_move (v := .bool ((decide (b_1 ≥ (1 : Int))))) rfl rfl) ?_
  refine ro_gval (g := (decide (b_1 ≥ (1 : Int)))) (d := (some 6)) rfl (.yes 2 5 true (decide (b_1 ≥ (1 : Int))) rfl rfl rfl rfl) rfl (fun hg => q_move (v := .int .i64 (b_1)) rfl rfl) ?_
  refine ro_gval (g := (decide (b_1 ≥ (1 : Int)))) (d := (some 7)) rfl (.yes 2 5 true (decide (b_1 ≥ (1 : Int))) rfl rfl rfl rfl) rfl (fun hg => q_leq (a := b_1) (b := (1099511627776 : Int)) rfl (gvb_yes hg) rfl) ?_
  refine rv 8 rfl rfl rfl (q_pickGT (a := (decide (b_1 ≥ (1 : Int)))) (b := (decide (b_1 ≤ (1099511627776 : Int)))) rfl rfl rfl rfl) ?_
  refine rv 2 rfl rfl rfl (q_assign (v := .bool (((decide (b_1 ≥ (1 : Int))) && (decide (b_1 ≤ (1099511627776 : Int)))))) rfl rfl) ?_
  refine ro_nil ?_
  refine wp_ret ?_
  exact ret_ok rfl (.cons (.tmp (v := .bool (((decide (b_1 ≥ (1 : Int))) && (decide (b_1 ≤ (1099511627776 : Int)))))) rfl) .nil) ⟨((decide (b_1 ≥ (1 : Int))) && (decide (b_1 ≤ (1099511627776 : Int)))), rfl, h⟩

-- moiety/wire.Pack
def F40_l1 (l_1 : Slc) (b_2 : Slc) (t_3 : Int) (w4 : World) (K5 : Slc × Int → World → Prop) (R : (Slc × Int) → World → Prop) : Prop :=
  if (decide (t_3 < (l_1.len : Int))) = true then (
    ex (IxA l_1 5 t_3) fun a6 =>
    ex (RdAt T90 a6 w4) fun x7 =>
    nw 91 T90 Z90 w4 fun a8 w9 =>
    st T90 a8 x7 w9 fun w10 =>
    ex (RdAt T90 a8 w10) fun x11 =>
    cl Try.prog 52 [T90.enc (x11)] (tInt .i64) w10 fun r13 w12 =>
    if (r13 != (0 : Int)) = true then (
      R ((⟨none, 0, 0⟩ : Slc), r13) w12
    ) else (
      ex (RdAt T90 a8 w12) fun x14 =>
      cl Try.prog 53 [tSlc.enc (b_2), T90.enc (x14)] tSlc w12 fun r16 w15 =>
      K5 (r16, (IntKind.i64.wrap (t_3 + (1 : Int)))) w15
    )
  ) else (
    R (b_2, (0 : Int)) w4
  )
def F40 (l_1 : Slc) (w : World) (R : (Slc × Int) → World → Prop) : Prop :=
  if (decide ((l_1.len : Int) > (1000 : Int))) = true then (
    R ((⟨none, 0, 0⟩ : Slc), (20 : Int)) w
  ) else (
    lp (fun (s : Slc × Int) w K => F40_l1 l_1 s.1 s.2 w K R) ((⟨none, 0, 0⟩ : Slc), (0 : Int)) w
  )
theorem F40_ok {l_1 : Slc} {w : World} {R : (Slc × Int) → World → Prop} (h : F40 l_1 w R) : cl Try.prog 40 [tSlc.enc (l_1)] (tTup2 tSlc (tInt .i64)) w R := by
  unfold F40 at h
  refine calls_start 27 Try.func40 rfl rfl (Nat.le_of_ble_eq_true rfl) ?_
  refine wp_seq ?_
  refine wp_text [0, 1] rfl ?_
  refine rv 2 rfl rfl rfl (q_assign (v := tSlc.enc ((⟨none, 0, 0⟩ : Slc))) rfl rfl) ?_
  refine rv 3 rfl rfl rfl (q_assign (v := .int .i64 ((0 : Int))) rfl rfl) ?_
  refine ro_nil ?_
  refine wp_seq ?_
  refine wp_seq ?_
  refine wp_text [0, 1, 2] rfl ?_
  refine rv 8 rfl rfl rfl (q_move (v := tSlc.enc (l_1)) rfl rfl) ?_
  refine rv 9 rfl rfl rfl (q_len (s := l_1) rfl Try.underlying113 rfl) ?_
  refine rv 10 rfl rfl rfl (q_gtr (a := (l_1.len : Int)) (b := (1000 : Int)) rfl rfl rfl) ?_
  refine ro_nil ?_
  refine wp_if (b := (decide ((l_1.len : Int) > (1000 : Int)))) rfl h (fun hb19 h => ?_) (fun hb19 h => ?_)
  · refine wp_seq ?_
    refine wp_text [0, 1] rfl ?_
    refine rv 2 rfl rfl rfl (q_assign (v := tSlc.enc ((⟨none, 0, 0⟩ : Slc))) rfl rfl) ?_
    refine rv 3 rfl rfl rfl (q_assign (v := .int .i64 ((20 : Int))) rfl rfl) ?_
    refine ro_nil ?_
    refine wp_ret ?_
    exact ret_ok rfl (.cons (.tmp (v := tSlc.enc ((⟨none, 0, 0⟩ : Slc))) rfl) (.cons (.tmp (v := .int .i64 ((20 : Int))) rfl) .nil)) ⟨((⟨none, 0, 0⟩ : Slc), (20 : Int)), rfl, h⟩
  · refine wp_skip ?_
    refine wp_seq ?_
    refine wp_text [0] rfl ?_
    refine rv 4 rfl rfl rfl (q_assign (v := tSlc.enc ((⟨none, 0, 0⟩ : Slc))) rfl rfl) ?_
    refine ro_nil ?_
    refine wp_seq ?_
    refine wp_seq ?_
    refine wp_text [0, 1, 2] rfl ?_
    refine rv 11 rfl rfl rfl (q_move (v := tSlc.enc (l_1)) rfl rfl) ?_
    refine rv 12 rfl rfl rfl (q_len (s := l_1) rfl Try.underlying113 rfl) ?_
    refine rv 13 rfl rfl rfl (q_move (v := .int .i64 ((0 : Int))) rfl rfl) ?_
    refine ro_nil ?_
    refine wp_block ?_
    refine loop_at (σ := Slc × Int) (fr := fun g (s : Slc × Int) => upd (upd (upd (upd (g) 11 (tSlc.enc (l_1))) 12 (.int .i64 ((l_1.len : Int)))) 4 (tSlc.enc (s.1))) 13 (.int .i64 (s.2))) (s0 := ((⟨none, 0, 0⟩ : Slc), (0 : Int))) (upd_step (upd_step (upd_step (upd_step rfl rfl) rfl) rfl) rfl) h ?_
    rintro ⟨b_2, t_3⟩ g w4 K5 h
    unfold F40_l1 at h
    refine wp_seq ?_
    refine wp_text [0] rfl ?_
    refine rv 14 rfl rfl rfl (q_lss (a := t_3) (b := (l_1.len : Int)) rfl rfl rfl) ?_
    refine ro_nil ?_
    refine wp_seq ?_
    refine wp_if (b := (decide (t_3 < (l_1.len : Int)))) rfl h (fun hb18 h => ?_) (fun hb18 h => ?_)
    · refine wp_skip ?_
      refine wp_seq ?_
      refine wp_block ?_
      refine wp_seq ?_
      refine wp_text [0, 1, 2, 3] rfl ?_
      obtain ⟨a6, ha6, h⟩ := h
      refine rv 15 rfl rfl rfl (q_indexAddr (s := l_1) (i := t_3) rfl Try.underlying113 ok91 rfl rfl ha6) ?_
      obtain ⟨x7, hx7, h⟩ := h
      refine rv 16 rfl rfl rfl (q_load (T := T90) (u := x7) (a := a6) rfl ok91 rfl hx7) ?_
      obtain ⟨a8, w9, ha8, hw9, h⟩ := nw_open h
      refine rv 6 rfl rfl rfl (q_alloc (u := Z90) rfl ok91 inf91 ha8 hw9) ?_
      obtain ⟨w10, hw10, hrw10, h⟩ := st_open h
      refine ro_skip (d := none) rfl (.free rfl) rfl (q_store (T := T90) (u := x7) (a := a8) rfl ok91 rfl rfl hrw10 hw10) ?_
      refine ro_nil ?_
      refine wp_seq ?_
      refine wp_seq ?_
      refine wp_text [0, 1, 2] rfl ?_
      obtain ⟨x11, hx11, h⟩ := h
      refine rv 17 rfl rfl rfl (q_load (T := T90) (u := x11) (a := a8) rfl ok91 rfl hx11) ?_
      refine ro_wp rfl (.free rfl) (wp_cl (d := (some 18)) rfl (q_call (k := 52) (l := [T90.enc (x11)]) rfl ent52 rfl) h ?_)
      intro r13 w12 h
      refine rv 7 rfl rfl rfl (q_assign (v := .int .i64 (r13)) rfl rfl) ?_
      refine ro_nil ?_
      refine wp_seq ?_
      refine wp_text [0, 1] rfl ?_
      refine rv 19 rfl rfl rfl (q_move (v := .int .i64 (r13)) rfl rfl) ?_
      refine rv 20 rfl rfl rfl (q_neq (a := r13) (b := (0 : Int)) rfl rfl rfl) ?_
      refine ro_nil ?_
      refine wp_if (b := (r13 != (0 : Int))) rfl h (fun hb17 h => ?_) (fun hb17 h => ?_)
      · refine wp_seq ?_
        refine wp_text [0, 1, 2] rfl ?_
        refine rv 21 rfl rfl rfl (q_move (v := .int .i64 (r13)) rfl rfl) ?_
        refine rv 2 rfl rfl rfl (q_assign (v := tSlc.enc ((⟨none, 0, 0⟩ : Slc))) rfl rfl) ?_
        refine rv 3 rfl rfl rfl (q_assign (v := .int .i64 (r13)) rfl rfl) ?_
        refine ro_nil ?_
        refine wp_ret ?_
        exact ret_ok rfl (.cons (.tmp (v := tSlc.enc ((⟨none, 0, 0⟩ : Slc))) rfl) (.cons (.tmp (v := .int .i64 (r13)) rfl) .nil)) ⟨((⟨none, 0, 0⟩ : Slc), r13), rfl, h⟩
      · refine wp_skip ?_
        refine wp_text [0, 1, 2, 3] rfl ?_
        refine rv 22 rfl rfl rfl (q_move (v := tSlc.enc (b_2)) rfl rfl) ?_
        obtain ⟨x14, hx14, h⟩ := h
        refine rv 23 rfl rfl rfl (q_load (T := T90) (u := x14) (a := a8) rfl ok91 rfl hx14) ?_
        refine ro_wp rfl (.free rfl) (wp_cl (d := (some 24)) rfl (q_call (k := 53) (l := [tSlc.enc (b_2), T90.enc (x14)]) rfl ent53 rfl) h ?_)
        intro r16 w15 h
        refine rv 4 rfl rfl rfl (q_assign (v := tSlc.enc (r16)) rfl rfl) ?_
        refine ro_nil ?_
        refine wp_text [0, 1] rfl ?_
        refine rv 25 rfl rfl rfl (q_add (a := t_3) (b := (1 : Int)) rfl rfl rfl) ?_
        refine rv 13 rfl rfl rfl (q_move (v := .int .i64 ((IntKind.i64.wrap (t_3 + (1 : Int))))) rfl rfl) ?_
        refine ro_nil ?_
        exact ⟨(r16, (IntKind.i64.wrap (t_3 + (1 : Int)))), _, arr (upd_step (upd_step (upd_step (upd_step rfl rfl) rfl) rfl) rfl), h⟩
    · refine wp_exit ?_
      refine wp_seq ?_
      refine wp_text [0, 1, 2] rfl ?_
      refine rv 26 rfl rfl rfl (q_move (v := tSlc.enc (b_2)) rfl rfl) ?_
      refine rv 2 rfl rfl rfl (q_assign (v := tSlc.enc (b_2)) rfl rfl) ?_
      refine rv 3 rfl rfl rfl (q_assign (v := .int .i64 ((0 : Int))) rfl rfl) ?_
      refine ro_nil ?_
      refine wp_ret ?_
      exact ret_ok rfl (.cons (.tmp (v := tSlc.enc (b_2)) rfl) (.cons (.tmp (v := .int .i64 ((0 : Int))) rfl) .nil)) ⟨(b_2, (0 : Int)), rfl, h⟩

-- (*moiety/wal.Wal).Append
def F41_j1 (e_7 : Int) (w8 : World) (R : Int → World → Prop) : Prop :=
  R e_7 w8
def F41 (w_1 : (Option Addr)) (load_2 : Slc) (w : World) (R : Int → World → Prop) : Prop :=
  ex (NC w_1) fun a3 =>
  ex (RdAt tBool (a3.add 4) w) fun x4 =>
  if x4 = true then (
    R (81 : Int) w
  ) else (
    cl Try.prog 54 [tSlc.enc (load_2)] (tTup2 tSlc (tInt .i64)) w fun r6 w5 =>
    if (r6.2 != (0 : Int)) = true then (
      R r6.2 w5
    ) else (
      dr w5 fun w9 =>
      ex (RdAt tPtr (a3.add 2) w9) fun x10 =>
      ex (RdAt (tInt .i64) (a3.add 3) w9) fun x11 =>
      cl Try.prog 55 [.pointer (x10), .int .i64 (x11), tSlc.enc (r6.1)] (tInt .i64) w9 fun r13 w12 =>
      cl Try.prog 30 [.pointer (w_1), .int .i64 (r13)] (tInt .i64) w12 fun r15 w14 =>
      kp ((RdAt tPtr (a3.add 2) w14) x10) <|
      kp ((RdAt (tInt .i64) (a3.add 3) w14) x11) <|
      if (r15 == (0 : Int)) = true then (
        ex (RdAt (tInt .i64) ((a3.add 0).add 0) w14) fun x18 =>
        st (tInt .i64) ((a3.add 0).add 0) (IntKind.i64.wrap (x18 + (1 : Int))) w14 fun w19 =>
        F41_j1 r15 w19 R
      ) else (
        F41_j1 r15 w14 R
      )
    )
  )
theorem F41_ok {w_1 : (Option Addr)} {load_2 : Slc} {w : World} {R : Int → World → Prop} (h : F41 w_1 load_2 w R) : cl Try.prog 41 [.pointer (w_1), tSlc.enc (load_2)] (tInt .i64) w R := by
  unfold F41 at h
  refine calls_start 43 Try.func41 rfl rfl (Nat.le_of_ble_eq_true rfl) ?_
  refine wp_seq ?_
  refine wp_text [0] rfl ?_
  refine rv 4 rfl rfl rfl (q_assign (v := .int .i64 ((0 : Int))) rfl rfl) ?_
  refine ro_nil ?_
  refine wp_seq ?_
  refine wp_seq ?_
  refine wp_text [0, 1, 2, 3] rfl ?_
  refine rv 7 rfl rfl rfl (q_move (v := .pointer (w_1)) rfl rfl) ?_
  obtain ⟨a3, ha3, h⟩ := h
  refine rv 8 rfl rfl rfl (q_nilCheck (a := a3) rfl (congrArg Value.pointer ha3)) ?_
  refine rv 9 rfl rfl rfl (q_fieldAddr (a := a3) (off := 4) rfl Try.underlying97 rfl rfl ok4 (by decide) rfl) ?_
  obtain ⟨x4, hx4, h⟩ := h
  refine rv 10 rfl rfl rfl (q_load (T := tBool) (u := x4) (a := (a3.add 4)) rfl ok4 rfl hx4) ?_
  refine ro_nil ?_
  refine wp_if (b := x4) rfl h (fun hb22 h => ?_) (fun hb22 h => ?_)
  · refine wp_seq ?_
    refine wp_text [0] rfl ?_
    refine rv 4 rfl rfl rfl (q_assign (v := .int .i64 ((81 : Int))) rfl rfl) ?_
    refine ro_nil ?_
    refine wp_ret ?_
    exact ret_ok rfl (.cons (.tmp (v := .int .i64 ((81 : Int))) rfl) .nil) ⟨(81 : Int), rfl, h⟩
  · refine wp_skip ?_
    refine wp_seq ?_
    refine wp_text [0, 1, 2, 3, 4, 5, 6] rfl ?_
    refine rv 12 rfl rfl rfl (q_move (v := tSlc.enc (load_2)) rfl rfl) ?_
    refine ro_wp rfl (.free rfl) (wp_cl (d := (some 13)) rfl (q_call (k := 54) (l := [tSlc.enc (load_2)]) rfl ent54 rfl) h ?_)
    intro r6 w5 h
    refine rv 11 rfl rfl rfl (q_move (v := (tTup2 tSlc (tInt .i64)).enc (r6)) rfl rfl) ?_
    refine rv 14 rfl rfl rfl (q_extract (vs := #[tSlc.enc (r6.1), .int .i64 (r6.2)]) (v := tSlc.enc (r6.1)) rfl rfl rfl) ?_
    refine rv 15 rfl rfl rfl (q_extract (vs := #[tSlc.enc (r6.1), .int .i64 (r6.2)]) (v := .int .i64 (r6.2)) rfl rfl rfl) ?_
    refine rv 5 rfl rfl rfl (q_assign (v := tSlc.enc (r6.1)) rfl rfl) ?_
    refine rv 6 rfl rfl rfl (q_assign (v := .int .i64 (r6.2)) rfl rfl) ?_
    refine ro_nil ?_
    refine wp_seq ?_
    refine wp_seq ?_
    refine wp_text [0, 1] rfl ?_
    refine rv 16 rfl rfl rfl (q_move (v := .int .i64 (r6.2)) rfl rfl) ?_
    refine rv 17 rfl rfl rfl (q_neq (a := r6.2) (b := (0 : Int)) rfl rfl rfl) ?_
    refine ro_nil ?_
    refine wp_if (b := (r6.2 != (0 : Int))) rfl h (fun hb21 h => ?_) (fun hb21 h => ?_)
    · refine wp_seq ?_
      refine wp_text [0, 1] rfl ?_
      refine rv 18 rfl rfl rfl (q_move (v := .int .i64 (r6.2)) rfl rfl) ?_
      refine rv 4 rfl rfl rfl (q_assign (v := .int .i64 (r6.2)) rfl rfl) ?_
      refine ro_nil ?_
      refine wp_ret ?_
      exact ret_ok rfl (.cons (.tmp (v := .int .i64 (r6.2)) rfl) .nil) ⟨r6.2, rfl, h⟩
    · refine wp_skip ?_
      refine seq_join (σ := Int) (J := fun (s : Int) w => F41_j1 s w R) (fr := fun g (s : Int) => upd (g) 6 (.int .i64 (s))) ?_ ?_
      · rintro e_7 g w8 h
        unfold F41_j1 at h
        refine wp_seq ?_
        refine wp_text [0, 1] rfl ?_
        refine rv 42 rfl rfl rfl (q_move (v := .int .i64 (e_7)) rfl rfl) ?_
        refine rv 4 rfl rfl rfl (q_assign (v := .int .i64 (e_7)) rfl rfl) ?_
        refine ro_nil ?_
        refine wp_ret ?_
        exact ret_ok rfl (.cons (.tmp (v := .int .i64 (e_7)) rfl) .nil) ⟨e_7, rfl, h⟩
      · refine wp_seq ?_
        obtain ⟨w9, hw9, h⟩ := dr_open h
        refine wp_drawn 13 mixed rfl (by kernel_rfl) (by intro c a d v w h; cases d <;> exact h) hw9 (fun hD => ?_)
        refine rp 0 19 hD rfl rfl rfl (fun _ => q_move (v := .pointer (w_1)) rfl rfl) ?_
        refine rp 1 20 hD rfl rfl rfl (fun _ => q_move (v := .pointer (w_1)) rfl rfl) ?_
        refine rp 2 21 hD rfl rfl rfl (fun _ => q_nilCheck (a := a3) rfl (congrArg Value.pointer ha3)) ?_
        refine rp 3 22 hD rfl rfl rfl (fun _ => q_fieldAddr (a := a3) (off := 2) rfl Try.underlying97 rfl rfl ok30 (by decide) rfl) ?_
        refine rp 5 24 hD rfl rfl rfl (fun _ => q_move (v := .pointer (w_1)) rfl rfl) ?_
        refine rp 6 25 hD rfl rfl rfl (fun _ => q_nilCheck (a := a3) rfl (congrArg Value.pointer ha3)) ?_
        refine rp 7 26 hD rfl rfl rfl (fun _ => q_fieldAddr (a := a3) (off := 3) rfl Try.underlying97 rfl rfl ok3 (by decide) rfl) ?_
        refine rp 9 28 hD rfl rfl rfl (fun _ => q_move (v := tSlc.enc (r6.1)) rfl rfl) ?_
        obtain ⟨x10, hx10, h⟩ := h
        refine rd_read (i := 4) (d := (some 23)) (fun W => (RdAt tPtr (a3.add 2) W) x10) hD (by kernel_rfl) (by kernel_rfl) rfl (.free rfl) rfl (fun W hr => q_load (T := tPtr) (u := x10) (a := (a3.add 2)) rfl ok30 rfl hr) hx10 ?_
        obtain ⟨x11, hx11, h⟩ := h
        refine rd_read (i := 8) (d := (some 27)) (fun W => (RdAt (tInt .i64) (a3.add 3) W) x11) hD (by kernel_rfl) (by kernel_rfl) rfl (.free rfl) rfl (fun W hr => q_load (T := (tInt .i64)) (u := x11) (a := (a3.add 3)) rfl ok3 rfl hr) hx11 ?_
        refine rd_one (i := 10) (by kernel_rfl) ?_
        refine po_wp rfl (.free rfl) (wp_cl (d := (some 29)) rfl (q_call (k := 55) (l := [.pointer (x10), .int .i64 (x11), tSlc.enc (r6.1)]) rfl ent55 rfl) h ?_)
        intro r13 w12 h
        refine ⟨(hk_wait (by kernel_rfl) (hk_wait (by kernel_rfl) hk_nil)), ?_⟩
        refine rd_one (i := 11) (by kernel_rfl) ?_
        refine po_wp rfl (.free rfl) (wp_cl (d := (some 30)) rfl (q_call (k := 30) (l := [.pointer (w_1), .int .i64 (r13)]) rfl ent30 rfl) h ?_)
        intro r15 w14 h
        obtain ⟨hk16, h⟩ := h
        obtain ⟨hk17, h⟩ := h
        refine ⟨(hk_keep (fun _ => hk17) (hk_keep (fun _ => hk16) hk_nil)), ?_⟩
        refine rp 12 6 hD rfl rfl rfl (fun _ => q_assign (v := .int .i64 (r15)) rfl rfl) ?_
        refine rd_nil (by kernel_rfl) ?_
        refine wp_seq ?_
        refine wp_text [0, 1] rfl ?_
        refine rv 31 rfl rfl rfl (q_move (v := .int .i64 (r15)) rfl rfl) ?_
        refine rv 32 rfl rfl rfl (q_eql (a := r15) (b := (0 : Int)) rfl rfl rfl) ?_
        refine ro_nil ?_
        refine wp_if (b := (r15 == (0 : Int))) rfl h (fun hb20 h => ?_) (fun hb20 h => ?_)
        · refine wp_text [0, 1, 2, 3, 4, 5, 6, 7, 8, 9] rfl ?_
          refine rv 33 rfl rfl rfl (q_move (v := .pointer (w_1)) rfl rfl) ?_
          refine rv 34 rfl rfl rfl (q_nilCheck (a := a3) rfl (congrArg Value.pointer ha3)) ?_
          refine rv 35 rfl rfl rfl (q_fieldAddr (a := a3) (off := 0) rfl Try.underlying97 rfl rfl ok95 (by decide) rfl) ?_
          refine rv 36 rfl rfl rfl (q_fieldAddr (a := (a3.add 0)) (off := 0) rfl Try.underlying95 rfl rfl ok3 (by decide) rfl) ?_
          obtain ⟨x18, hx18, h⟩ := h
          refine rv 37 rfl rfl rfl (q_load (T := (tInt .i64)) (u := x18) (a := ((a3.add 0).add 0)) rfl ok3 rfl hx18) ?_
          refine rv 38 rfl rfl rfl (q_add (a := x18) (b := (1 : Int)) rfl rfl rfl) ?_
          refine rv 39 rfl rfl rfl (q_nilCheck (a := a3) rfl (congrArg Value.pointer ha3)) ?_
          refine rv 40 rfl rfl rfl (q_fieldAddr (a := a3) (off := 0) rfl Try.underlying97 rfl rfl ok95 (by decide) rfl) ?_
          refine rv 41 rfl rfl rfl (q_fieldAddr (a := (a3.add 0)) (off := 0) rfl Try.underlying95 rfl rfl ok3 (by decide) rfl) ?_
          obtain ⟨w19, hw19, hrw19, h⟩ := st_open h
          refine ro_skip (d := none) rfl (.free rfl) rfl (q_store (T := (tInt .i64)) (u := (IntKind.i64.wrap (x18 + (1 : Int)))) (a := ((a3.add 0).add 0)) rfl ok3 rfl rfl hrw19 hw19) ?_
          refine ro_nil ?_
          exact ⟨(r15), _, arr (upd_step rfl rfl), h⟩
        · refine wp_skip ?_
          exact ⟨(r15), _, arr (upd_step rfl rfl), h⟩

end Go.Proofs.Ytjkmeooncmhonaa.Cf
