/- Characteristic formulae of Go functions, and that they are. Printed by gen.py (own tool). -/
import Derived.Test.YtjkmeooncmhonaaTy
namespace Go.Proofs.Ytjkmeooncmhonaa.Cf
open Go
set_option maxRecDepth 100000
set_option maxHeartbeats 1000000
set_option linter.unusedVariables false
set_option linter.unusedSimpArgs false

-- moiety/ballot.list
def F22_l1 (m_1 : (Option Nat)) (r5 : Slc) (l_6 : Slc) (t_7 : Int) (w8 : World) (K9 : Slc × Int → World → Prop) (R : Slc → World → Prop) : Prop :=
  if (decide (t_7 < (r5.len : Int))) = true then (
    ex (IxA r5 1 t_7) fun a10 =>
    ex (RdAt (tInt .i64) a10 w8) fun x11 =>
    ex (MapGet T46 .i64 m_1 x11 w8) fun m12 =>
    apl 47 T46 3 32 l_6 [(m12.getD Z46)] w8 fun r16 w15 =>
    K9 (r16, (IntKind.i64.wrap (t_7 + (1 : Int)))) w15
  ) else (
    R l_6 w8
  )
def F22 (m_1 : (Option Nat)) (w : World) (R : Slc → World → Prop) : Prop :=
  cl Try.prog 33 [.map (m_1)] tFun w fun r3 w2 =>
  cl Try.prog 32 [(r3).enc] tSlc w2 fun r5 w4 =>
  lp (fun (s : Slc × Int) w K => F22_l1 m_1 r5 s.1 s.2 w K R) ((⟨none, 0, 0⟩ : Slc), (0 : Int)) w4
theorem F22_ok {m_1 : (Option Nat)} {w : World} {R : Slc → World → Prop} (h : F22 m_1 w R) : cl Try.prog 22 [.map (m_1)] tSlc w R := by
  unfold F22 at h
  refine calls_start 22 Try.func22 rfl rfl (Nat.le_of_ble_eq_true rfl) ?_
  refine wp_seq ?_
  refine wp_text [0] rfl ?_
  refine rv 2 rfl rfl rfl (q_assign (v := tSlc.enc ((⟨none, 0, 0⟩ : Slc))) rfl rfl) ?_
  refine ro_nil ?_
  refine wp_seq ?_
  refine wp_text [0] rfl ?_
  refine rv 3 rfl rfl rfl (q_assign (v := tSlc.enc ((⟨none, 0, 0⟩ : Slc))) rfl rfl) ?_
  refine ro_nil ?_
  refine wp_seq ?_
  refine wp_seq ?_
  refine wp_text [0, 1, 2, 3, 4] rfl ?_
  refine rv 6 rfl rfl rfl (q_move (v := .map (m_1)) rfl rfl) ?_
  refine ro_wp rfl (.free rfl) (wp_cl (d := (some 7)) rfl (q_call (k := 33) (l := [.map (m_1)]) rfl ent33 rfl) h ?_)
  intro r3 w2 h
  refine ro_wp rfl (.free rfl) (wp_cl (d := (some 8)) rfl (q_call (k := 32) (l := [(r3).enc]) rfl ent32 rfl) h ?_)
  intro r5 w4 h
  refine rv 9 rfl rfl rfl (q_len (s := r5) rfl Try.underlying37 rfl) ?_
  refine rv 10 rfl rfl rfl (q_move (v := .int .i64 ((0 : Int))) rfl rfl) ?_
  refine ro_nil ?_
  refine wp_block ?_
  refine loop_at (σ := Slc × Int) (fr := fun g (s : Slc × Int) => upd (upd (upd (upd (upd (g) 0 (.map (m_1))) 8 (tSlc.enc (r5))) 9 (.int .i64 ((r5.len : Int)))) 3 (tSlc.enc (s.1))) 10 (.int .i64 (s.2))) (s0 := ((⟨none, 0, 0⟩ : Slc), (0 : Int))) (upd_step (upd_step (upd_step (upd_step (upd_step rfl rfl) rfl) rfl) rfl) rfl) h ?_
  rintro ⟨l_6, t_7⟩ g w8 K9 h
  unfold F22_l1 at h
  refine wp_seq ?_
  refine wp_text [0] rfl ?_
  refine rv 11 rfl rfl rfl (q_lss (a := t_7) (b := (r5.len : Int)) rfl rfl rfl) ?_
  refine ro_nil ?_
  refine wp_seq ?_
  refine wp_if (b := (decide (t_7 < (r5.len : Int)))) rfl h (fun hb17 h => ?_) (fun hb17 h => ?_)
  · refine wp_skip ?_
    refine wp_seq ?_
    refine wp_block ?_
    refine wp_seq ?_
    refine wp_text [0, 1, 2] rfl ?_
    obtain ⟨a10, ha10, h⟩ := h
    refine rv 12 rfl rfl rfl (q_indexAddr (s := r5) (i := t_7) rfl Try.underlying37 ok3 rfl rfl ha10) ?_
    obtain ⟨x11, hx11, h⟩ := h
    refine rv 13 rfl rfl rfl (q_load (T := (tInt .i64)) (u := x11) (a := a10) rfl ok3 rfl hx11) ?_
    refine rv 5 rfl rfl rfl (q_assign (v := .int .i64 (x11)) rfl rfl) ?_
    refine ro_nil ?_
    refine wp_text [0, 1, 2, 3, 4, 5, 6] rfl ?_
    refine rv 14 rfl rfl rfl (q_move (v := tSlc.enc (l_6)) rfl rfl) ?_
    refine rv 15 rfl rfl rfl (q_move (v := .map (m_1)) rfl rfl) ?_
    refine rv 16 rfl rfl rfl (q_move (v := .int .i64 (x11)) rfl rfl) ?_
    obtain ⟨m12, hm12, h⟩ := h
    refine rv 17 rfl rfl rfl (q_lookup (T := T46) (r := m_1) (key := x11) (u := m12) (z := Z46) rfl Try.underlying51 Try.underlying3 (inf47) rfl rfl hm12) ?_
    obtain ⟨a13, w14, ha13, hw14, h⟩ := apl_open h
    refine rv 18 rfl rfl rfl (q_rowOf (T := T46) (xs := [(m12.getD Z46)]) rfl Try.underlying23 ok47 inf47 rfl (by decide) (by decide) rfl ha13 hw14) ?_
    refine ro_wp rfl (.free rfl) (wp_append (d := (some 19)) (T := T46) rfl rfl Try.underlying23 ⟨_, Try.underlying23⟩ ok47 inf47 rfl rfl (Nat.lt_of_lt_of_le Nat.zero_lt_one (Nat.le_of_ble_eq_true rfl)) rfl rfl h ?_)
    intro r16 w15 h
    refine rv 3 rfl rfl rfl (q_assign (v := tSlc.enc (r16)) rfl rfl) ?_
    refine ro_nil ?_
    refine wp_text [0, 1] rfl ?_
    refine rv 20 rfl rfl rfl (q_add (a := t_7) (b := (1 : Int)) rfl rfl rfl) ?_
    refine rv 10 rfl rfl rfl (q_move (v := .int .i64 ((IntKind.i64.wrap (t_7 + (1 : Int))))) rfl rfl) ?_
    refine ro_nil ?_
    exact ⟨(r16, (IntKind.i64.wrap (t_7 + (1 : Int)))), _, arr (upd_step (upd_step (upd_step (upd_step (upd_step rfl rfl) rfl) rfl) rfl) rfl), h⟩
  · refine wp_exit ?_
    refine wp_seq ?_
    refine wp_text [0, 1] rfl ?_
    refine rv 21 rfl rfl rfl (q_move (v := tSlc.enc (l_6)) rfl rfl) ?_
    refine rv 2 rfl rfl rfl (q_assign (v := tSlc.enc (l_6)) rfl rfl) ?_
    refine ro_nil ?_
    refine wp_ret ?_
    exact ret_ok rfl (.cons (.tmp (v := tSlc.enc (l_6)) rfl) .nil) ⟨l_6, rfl, h⟩

-- moiety/moietyref22.place
def F23_l1 (l_1 : Slc) (slot_2 : Int) (at_3 : Int) (w4 : World) (K5 : Int → World → Prop) (R : (Int × Bool) → World → Prop) : Prop :=
  ex (fun x => (decide (at_3 < (l_1.len : Int))) = true → (IxA l_1 3 at_3) x) fun a6 =>
  ex (fun x => (decide (at_3 < (l_1.len : Int))) = true → (RdAt (tInt .i64) (a6.add 0) w4) x) fun x7 =>
  if ((decide (at_3 < (l_1.len : Int))) && (decide (x7 < slot_2))) = true then (
    K5 ((IntKind.i64.wrap (at_3 + (1 : Int)))) w4
  ) else (
    dr w4 fun w8 =>
    ex (fun x => (decide (at_3 < (l_1.len : Int))) = true → (IxA l_1 3 at_3) x) fun a9 =>
    ex (fun x => (decide (at_3 < (l_1.len : Int))) = true → (RdAt (tInt .i64) (a9.add 0) w8) x) fun x10 =>
    R (at_3, ((decide (at_3 < (l_1.len : Int))) && (x10 == slot_2))) w8
  )
def F23 (l_1 : Slc) (slot_2 : Int) (w : World) (R : (Int × Bool) → World → Prop) : Prop :=
  lp (fun (s : Int) w K => F23_l1 l_1 slot_2 s w K R) ((0 : Int)) w
theorem F23_ok {l_1 : Slc} {slot_2 : Int} {w : World} {R : (Int × Bool) → World → Prop} (h : F23 l_1 slot_2 w R) : cl Try.prog 23 [tSlc.enc (l_1), .int .i64 (slot_2)] (tTup2 (tInt .i64) tBool) w R := by
  unfold F23 at h
  refine calls_start 36 Try.func23 rfl rfl (Nat.le_of_ble_eq_true rfl) ?_
  refine wp_seq ?_
  refine wp_text [0, 1] rfl ?_
  refine rv 4 rfl rfl rfl (q_assign (v := .int .i64 ((0 : Int))) rfl rfl) ?_
  refine rv 5 rfl rfl rfl (q_assign (v := .bool (false)) rfl rfl) ?_
  refine ro_nil ?_
  refine wp_seq ?_
  refine wp_text [0] rfl ?_
  refine rv 6 rfl rfl rfl (q_assign (v := .int .i64 ((0 : Int))) rfl rfl) ?_
  refine ro_nil ?_
  refine wp_seq ?_
  refine wp_block ?_
  refine loop_at (σ := Int) (fr := fun g (s : Int) => upd (upd (upd (g) 0 (tSlc.enc (l_1))) 1 (.int .i64 (slot_2))) 6 (.int .i64 (s))) (s0 := ((0 : Int))) (upd_step (upd_step (upd_step rfl rfl) rfl) rfl) h ?_
  rintro at_3 g w4 K5 h
  unfold F23_l1 at h
  refine wp_seq ?_
  refine wp_seq ?_
  refine wp_text [0, 1, 2, 3, 4, 5, 6, 7, 8, 9, 10, 11, 12] rfl ?_
  refine rv 7 rfl rfl rfl (q_move (v := .int .i64 (at_3)) rfl rfl) ?_
  refine rv 8 rfl rfl rfl (q_move (v := tSlc.enc (l_1)) rfl rfl) ?_
  refine rv 9 rfl rfl rfl (q_len (s := l_1) rfl Try.underlying23 rfl) ?_
  refine rv 10 rfl rfl rfl (q_lss (a := at_3) (b := (l_1.len : Int)) rfl rfl rfl) ?_
  refine rv 11 rfl rfl rfl (q_move (v := .bool ((decide (at_3 < (l_1.len : Int))))) rfl rfl) ?_
  refine ro_gval (g := (decide (at_3 < (l_1.len : Int)))) (d := (some 12)) rfl (.yes 4 11 true (decide (at_3 < (l_1.len : Int))) rfl rfl rfl rfl) rfl (fun hg => q_move (v := tSlc.enc (l_1)) rfl rfl) ?_
  refine ro_gval (g := (decide (at_3 < (l_1.len : Int)))) (d := (some 13)) rfl (.yes 4 11 true (decide (at_3 < (l_1.len : Int))) rfl rfl rfl rfl) rfl (fun hg => q_move (v := .int .i64 (at_3)) rfl rfl) ?_
  obtain ⟨a6, ha6, h⟩ := h
  refine ro_gval (g := (decide (at_3 < (l_1.len : Int)))) (d := (some 14)) rfl (.yes 4 11 true (decide (at_3 < (l_1.len : Int))) rfl rfl rfl rfl) rfl (fun hg => q_indexAddr (s := l_1) (i := at_3) rfl Try.underlying23 ok47 (gvb_yes hg) (gvb_yes hg) (ha6 hg)) ?_
  refine ro_gval (g := (decide (at_3 < (l_1.len : Int)))) (d := (some 15)) rfl (.yes 4 11 true (decide (at_3 < (l_1.len : Int))) rfl rfl rfl rfl) rfl (fun hg => q_fieldAddr (a := a6) (off := 0) rfl Try.underlying47 rfl rfl ok3 (by decide) (gvb_yes hg)) ?_
  obtain ⟨x7, hx7, h⟩ := h
  refine ro_gval (g := (decide (at_3 < (l_1.len : Int)))) (d := (some 16)) rfl (.yes 4 11 true (decide (at_3 < (l_1.len : Int))) rfl rfl rfl rfl) rfl (fun hg => q_load (T := (tInt .i64)) (u := x7) (a := (a6.add 0)) rfl ok3 (gvb_yes hg) (hx7 hg)) ?_
  refine ro_gval (g := (decide (at_3 < (l_1.len : Int)))) (d := (some 17)) rfl (.yes 4 11 true (decide (at_3 < (l_1.len : Int))) rfl rfl rfl rfl) rfl (fun hg => q_move (v := .int .i64 (slot_2)) rfl rfl) ?_
  refine ro_gval (g := (decide (at_3 < (l_1.len : Int)))) (d := (some 18)) rfl (.yes 4 11 true (decide (at_3 < (l_1.len : Int))) rfl rfl rfl rfl) rfl (fun hg => q_lss (a := x7) (b := slot_2) rfl (gvb_yes hg) (gvb_yes hg)) ?_
  refine rv 19 rfl rfl rfl (q_pickGT (a := (decide (at_3 < (l_1.len : Int)))) (b := (decide (x7 < slot_2))) rfl rfl rfl rfl) ?_
  refine ro_nil ?_
  refine wp_if (b := ((decide (at_3 < (l_1.len : Int))) && (decide (x7 < slot_2)))) rfl h (fun hb11 h => ?_) (fun hb11 h => ?_)
  · refine wp_skip ?_
    refine wp_block ?_
    refine wp_text [0, 1, 2] rfl ?_
    refine rv 20 rfl rfl rfl (q_move (v := .int .i64 (at_3)) rfl rfl) ?_
    refine rv 21 rfl rfl rfl (q_add (a := at_3) (b := (1 : Int)) rfl rfl rfl) ?_
    refine rv 6 rfl rfl rfl (q_assign (v := .int .i64 ((IntKind.i64.wrap (at_3 + (1 : Int))))) rfl rfl) ?_
    refine ro_nil ?_
    exact ⟨((IntKind.i64.wrap (at_3 + (1 : Int)))), _, arr (upd_step (upd_step (upd_step rfl rfl) rfl) rfl), h⟩
  · refine wp_exit ?_
    refine wp_seq ?_
    obtain ⟨w8, hw8, h⟩ := dr_open h
    refine wp_drawn 16 mixed rfl (by kernel_rfl) (by intro c a d v w h; cases d <;> exact h) hw8 (fun hD => ?_)
    refine rp 0 22 hD rfl rfl rfl (fun _ => q_move (v := .int .i64 (at_3)) rfl rfl) ?_
    refine rp 1 23 hD rfl rfl rfl (fun _ => q_move (v := .int .i64 (at_3)) rfl rfl) ?_
    refine rp 2 24 hD rfl rfl rfl (fun _ => q_move (v := tSlc.enc (l_1)) rfl rfl) ?_
    refine rp 3 25 hD rfl rfl rfl (fun _ => q_len (s := l_1) rfl Try.underlying23 rfl) ?_
    refine rp 4 26 hD rfl rfl rfl (fun _ => q_lss (a := at_3) (b := (l_1.len : Int)) rfl rfl rfl) ?_
    refine rp 5 27 hD rfl rfl rfl (fun _ => q_move (v := .bool ((decide (at_3 < (l_1.len : Int))))) rfl rfl) ?_
    refine rd_gpure (i := 6) (g := (decide (at_3 < (l_1.len : Int)))) (d := (some 28)) hD (by kernel_rfl) (by kernel_rfl) rfl (.yes 5 27 true (decide (at_3 < (l_1.len : Int))) rfl rfl rfl rfl) rfl (fun hg _ => q_move (v := tSlc.enc (l_1)) rfl rfl) ?_
    refine rd_gpure (i := 7) (g := (decide (at_3 < (l_1.len : Int)))) (d := (some 29)) hD (by kernel_rfl) (by kernel_rfl) rfl (.yes 5 27 true (decide (at_3 < (l_1.len : Int))) rfl rfl rfl rfl) rfl (fun hg _ => q_move (v := .int .i64 (at_3)) rfl rfl) ?_
    obtain ⟨a9, ha9, h⟩ := h
    refine rd_gpure (i := 8) (g := (decide (at_3 < (l_1.len : Int)))) (d := (some 30)) hD (by kernel_rfl) (by kernel_rfl) rfl (.yes 5 27 true (decide (at_3 < (l_1.len : Int))) rfl rfl rfl rfl) rfl (fun hg _ => q_indexAddr (s := l_1) (i := at_3) rfl Try.underlying23 ok47 (gvb_yes hg) (gvb_yes hg) (ha9 hg)) ?_
    refine rd_gpure (i := 9) (g := (decide (at_3 < (l_1.len : Int)))) (d := (some 31)) hD (by kernel_rfl) (by kernel_rfl) rfl (.yes 5 27 true (decide (at_3 < (l_1.len : Int))) rfl rfl rfl rfl) rfl (fun hg _ => q_fieldAddr (a := a9) (off := 0) rfl Try.underlying47 rfl rfl ok3 (by decide) (gvb_yes hg)) ?_
    refine rd_gpure (i := 11) (g := (decide (at_3 < (l_1.len : Int)))) (d := (some 33)) hD (by kernel_rfl) (by kernel_rfl) rfl (.yes 5 27 true (decide (at_3 < (l_1.len : Int))) rfl rfl rfl rfl) rfl (fun hg _ => q_move (v := .int .i64 (slot_2)) rfl rfl) ?_
    refine rp 14 4 hD rfl rfl rfl (fun _ => q_assign (v := .int .i64 (at_3)) rfl rfl) ?_
    obtain ⟨x10, hx10, h⟩ := h
    refine rd_gread (i := 10) (g := (decide (at_3 < (l_1.len : Int)))) (d := (some 32)) (fun W => (RdAt (tInt .i64) (a9.add 0) W) x10) hD (by kernel_rfl) (by kernel_rfl) rfl (.yes 5 27 true (decide (at_3 < (l_1.len : Int))) rfl rfl rfl rfl) rfl (fun hg W hr => q_load (T := (tInt .i64)) (u := x10) (a := (a9.add 0)) rfl ok3 (gvb_yes hg) hr) hx10 ?_
    refine rd_gpure (i := 12) (g := (decide (at_3 < (l_1.len : Int)))) (d := (some 34)) hD (by kernel_rfl) (by kernel_rfl) rfl (.yes 5 27 true (decide (at_3 < (l_1.len : Int))) rfl rfl rfl rfl) rfl (fun hg _ => q_eql (a := x10) (b := slot_2) rfl (gvb_yes hg) (gvb_yes hg)) ?_
    refine rp 13 35 hD rfl rfl rfl (fun _ => q_pickGT (a := (decide (at_3 < (l_1.len : Int)))) (b := (x10 == slot_2)) rfl rfl rfl rfl) ?_
    refine rp 15 5 hD rfl rfl rfl (fun _ => q_assign (v := .bool (((decide (at_3 < (l_1.len : Int))) && (x10 == slot_2)))) rfl rfl) ?_
    refine rd_nil (by kernel_rfl) ?_
    refine wp_ret ?_
    exact ret_ok rfl (.cons (.tmp (v := .int .i64 (at_3)) rfl) (.cons (.tmp (v := .bool (((decide (at_3 < (l_1.len : Int))) && (x10 == slot_2)))) rfl) .nil)) ⟨(at_3, ((decide (at_3 < (l_1.len : Int))) && (x10 == slot_2))), rfl, h⟩

-- moiety/wal.Open
def F24_j1 (d_1 : (Option Addr)) (log_2 : Int) (r6 : (Slc × Int)) (e_7 : Int) (w8 : World) (R : ((Option Addr) × Slc × Int) → World → Prop) : Prop :=
  if (e_7 != (0 : Int)) = true then (
    R ((none : Option Addr), (⟨none, 0, 0⟩ : Slc), e_7) w8
  ) else (
    nw 97 T96 (⟨(⟨(r6.1.len : Int), (r6.1.len : Int)⟩ : S94), d_1, log_2, false⟩ : S96) w8 fun a9 w10 =>
    R ((some a9), r6.1, (0 : Int)) w10
  )
def F24 (d_1 : (Option Addr)) (log_2 : Int) (w : World) (R : ((Option Addr) × Slc × Int) → World → Prop) : Prop :=
  if d_1.isNone = true then (
    R ((none : Option Addr), (⟨none, 0, 0⟩ : Slc), (80 : Int)) w
  ) else (
    cl Try.prog 34 [.pointer (d_1), .int .i64 (log_2)] (tTup2 tSlc (tInt .i64)) w fun r4 w3 =>
    if (r4.2 != (0 : Int)) = true then (
      R ((none : Option Addr), (⟨none, 0, 0⟩ : Slc), r4.2) w3
    ) else (
      cl Try.prog 35 [tSlc.enc (r4.1)] (tTup2 tSlc (tInt .i64)) w3 fun r6 w5 =>
      if (decide (r6.2 < (r4.1.len : Int))) = true then (
        ex (Sub r4.1 1 0 r6.2 r6.2) fun s12 =>
        cl Try.prog 36 [.pointer (d_1), .int .i64 (log_2), tSlc.enc (s12)] (tInt .i64) w5 fun r14 w13 =>
        F24_j1 d_1 log_2 r6 r14 w13 R
      ) else (
        cl Try.prog 37 [.pointer (d_1), .int .i64 (log_2)] (tInt .i64) w5 fun r16 w15 =>
        if (decide (r16 < r6.2)) = true then (
          cl Try.prog 31 [.pointer (d_1), .int .i64 (log_2)] (tInt .i64) w15 fun r18 w17 =>
          F24_j1 d_1 log_2 r6 r18 w17 R
        ) else (
          F24_j1 d_1 log_2 r6 r4.2 w15 R
        )
      )
    )
  )
theorem F24_ok {d_1 : (Option Addr)} {log_2 : Int} {w : World} {R : ((Option Addr) × Slc × Int) → World → Prop} (h : F24 d_1 log_2 w R) : cl Try.prog 24 [.pointer (d_1), .int .i64 (log_2)] (tTup3 tPtr tSlc (tInt .i64)) w R := by
  unfold F24 at h
  refine calls_start 61 Try.func24 rfl rfl (Nat.le_of_ble_eq_true rfl) ?_
  refine wp_seq ?_
  refine wp_text [0, 1, 2] rfl ?_
  refine rv 4 rfl rfl rfl (q_assign (v := .pointer ((none : Option Addr))) rfl rfl) ?_
  refine rv 5 rfl rfl rfl (q_assign (v := tSlc.enc ((⟨none, 0, 0⟩ : Slc))) rfl rfl) ?_
  refine rv 6 rfl rfl rfl (q_assign (v := .int .i64 ((0 : Int))) rfl rfl) ?_
  refine ro_nil ?_
  refine wp_seq ?_
  refine wp_seq ?_
  refine wp_text [0, 1] rfl ?_
  refine rv 11 rfl rfl rfl (q_move (v := .pointer (d_1)) rfl rfl) ?_
  refine rv 12 rfl rfl rfl (q_eqP0 (a := d_1) rfl Try.underlying30 rfl rfl) ?_
  refine ro_nil ?_
  refine wp_if (b := d_1.isNone) rfl h (fun hb22 h => ?_) (fun hb22 h => ?_)
  · refine wp_seq ?_
    refine wp_text [0, 1, 2] rfl ?_
    refine rv 4 rfl rfl rfl (q_assign (v := .pointer ((none : Option Addr))) rfl rfl) ?_
    refine rv 5 rfl rfl rfl (q_assign (v := tSlc.enc ((⟨none, 0, 0⟩ : Slc))) rfl rfl) ?_
    refine rv 6 rfl rfl rfl (q_assign (v := .int .i64 ((80 : Int))) rfl rfl) ?_
    refine ro_nil ?_
    refine wp_ret ?_
    exact ret_ok rfl (.cons (.tmp (v := .pointer ((none : Option Addr))) rfl) (.cons (.tmp (v := tSlc.enc ((⟨none, 0, 0⟩ : Slc))) rfl) (.cons (.tmp (v := .int .i64 ((80 : Int))) rfl) .nil))) ⟨((none : Option Addr), (⟨none, 0, 0⟩ : Slc), (80 : Int)), rfl, h⟩
  · refine wp_skip ?_
    refine wp_seq ?_
    refine wp_text [0, 1, 2, 3, 4, 5, 6, 7] rfl ?_
    refine rv 14 rfl rfl rfl (q_move (v := .pointer (d_1)) rfl rfl) ?_
    refine rv 15 rfl rfl rfl (q_move (v := .int .i64 (log_2)) rfl rfl) ?_
    refine ro_wp rfl (.free rfl) (wp_cl (d := (some 16)) rfl (q_call (k := 34) (l := [.pointer (d_1), .int .i64 (log_2)]) rfl ent34 rfl) h ?_)
    intro r4 w3 h
    refine rv 13 rfl rfl rfl (q_move (v := (tTup2 tSlc (tInt .i64)).enc (r4)) rfl rfl) ?_
    refine rv 17 rfl rfl rfl (q_extract (vs := #[tSlc.enc (r4.1), .int .i64 (r4.2)]) (v := tSlc.enc (r4.1)) rfl rfl rfl) ?_
    refine rv 18 rfl rfl rfl (q_extract (vs := #[tSlc.enc (r4.1), .int .i64 (r4.2)]) (v := .int .i64 (r4.2)) rfl rfl rfl) ?_
    refine rv 7 rfl rfl rfl (q_assign (v := tSlc.enc (r4.1)) rfl rfl) ?_
    refine rv 8 rfl rfl rfl (q_assign (v := .int .i64 (r4.2)) rfl rfl) ?_
    refine ro_nil ?_
    refine wp_seq ?_
    refine wp_seq ?_
    refine wp_text [0, 1] rfl ?_
    refine rv 19 rfl rfl rfl (q_move (v := .int .i64 (r4.2)) rfl rfl) ?_
    refine rv 20 rfl rfl rfl (q_neq (a := r4.2) (b := (0 : Int)) rfl rfl rfl) ?_
    refine ro_nil ?_
    refine wp_if (b := (r4.2 != (0 : Int))) rfl h (fun hb21 h => ?_) (fun hb21 h => ?_)
    · refine wp_seq ?_
      refine wp_text [0, 1, 2, 3] rfl ?_
      refine rv 21 rfl rfl rfl (q_move (v := .int .i64 (r4.2)) rfl rfl) ?_
      refine rv 4 rfl rfl rfl (q_assign (v := .pointer ((none : Option Addr))) rfl rfl) ?_
      refine rv 5 rfl rfl rfl (q_assign (v := tSlc.enc ((⟨none, 0, 0⟩ : Slc))) rfl rfl) ?_
      refine rv 6 rfl rfl rfl (q_assign (v := .int .i64 (r4.2)) rfl rfl) ?_
      refine ro_nil ?_
      refine wp_ret ?_
      exact ret_ok rfl (.cons (.tmp (v := .pointer ((none : Option Addr))) rfl) (.cons (.tmp (v := tSlc.enc ((⟨none, 0, 0⟩ : Slc))) rfl) (.cons (.tmp (v := .int .i64 (r4.2)) rfl) .nil))) ⟨((none : Option Addr), (⟨none, 0, 0⟩ : Slc), r4.2), rfl, h⟩
    · refine wp_skip ?_
      refine wp_seq ?_
      refine wp_text [0, 1, 2, 3, 4, 5, 6] rfl ?_
      refine rv 23 rfl rfl rfl (q_move (v := tSlc.enc (r4.1)) rfl rfl) ?_
      refine ro_wp rfl (.free rfl) (wp_cl (d := (some 24)) rfl (q_call (k := 35) (l := [tSlc.enc (r4.1)]) rfl ent35 rfl) h ?_)
      intro r6 w5 h
      refine rv 22 rfl rfl rfl (q_move (v := (tTup2 tSlc (tInt .i64)).enc (r6)) rfl rfl) ?_
      refine rv 25 rfl rfl rfl (q_extract (vs := #[tSlc.enc (r6.1), .int .i64 (r6.2)]) (v := tSlc.enc (r6.1)) rfl rfl rfl) ?_
      refine rv 26 rfl rfl rfl (q_extract (vs := #[tSlc.enc (r6.1), .int .i64 (r6.2)]) (v := .int .i64 (r6.2)) rfl rfl rfl) ?_
      refine rv 9 rfl rfl rfl (q_assign (v := tSlc.enc (r6.1)) rfl rfl) ?_
      refine rv 10 rfl rfl rfl (q_assign (v := .int .i64 (r6.2)) rfl rfl) ?_
      refine ro_nil ?_
      refine seq_join (σ := Int) (J := fun (s : Int) w => F24_j1 d_1 log_2 r6 s w R) (fr := fun g (s : Int) => upd (upd (upd (upd (g) 0 (.pointer (d_1))) 1 (.int .i64 (log_2))) 9 (tSlc.enc (r6.1))) 8 (.int .i64 (s))) ?_ ?_
      · rintro e_7 g w8 h
        unfold F24_j1 at h
        refine wp_seq ?_
        refine wp_seq ?_
        refine wp_text [0, 1] rfl ?_
        refine rv 48 rfl rfl rfl (q_move (v := .int .i64 (e_7)) rfl rfl) ?_
        refine rv 49 rfl rfl rfl (q_neq (a := e_7) (b := (0 : Int)) rfl rfl rfl) ?_
        refine ro_nil ?_
        refine wp_if (b := (e_7 != (0 : Int))) rfl h (fun hb11 h => ?_) (fun hb11 h => ?_)
        · refine wp_seq ?_
          refine wp_text [0, 1, 2, 3] rfl ?_
          refine rv 50 rfl rfl rfl (q_move (v := .int .i64 (e_7)) rfl rfl) ?_
          refine rv 4 rfl rfl rfl (q_assign (v := .pointer ((none : Option Addr))) rfl rfl) ?_
          refine rv 5 rfl rfl rfl (q_assign (v := tSlc.enc ((⟨none, 0, 0⟩ : Slc))) rfl rfl) ?_
          refine rv 6 rfl rfl rfl (q_assign (v := .int .i64 (e_7)) rfl rfl) ?_
          refine ro_nil ?_
          refine wp_ret ?_
          exact ret_ok rfl (.cons (.tmp (v := .pointer ((none : Option Addr))) rfl) (.cons (.tmp (v := tSlc.enc ((⟨none, 0, 0⟩ : Slc))) rfl) (.cons (.tmp (v := .int .i64 (e_7)) rfl) .nil))) ⟨((none : Option Addr), (⟨none, 0, 0⟩ : Slc), e_7), rfl, h⟩
        · refine wp_skip ?_
          refine wp_seq ?_
          refine wp_text [0, 1, 2, 3, 4, 5, 6, 7, 8, 9, 10, 11, 12] rfl ?_
          refine rv 51 rfl rfl rfl (q_move (v := tSlc.enc (r6.1)) rfl rfl) ?_
          refine rv 52 rfl rfl rfl (q_len (s := r6.1) rfl Try.underlying81 rfl) ?_
          refine rv 53 rfl rfl rfl (q_move (v := tSlc.enc (r6.1)) rfl rfl) ?_
          refine rv 54 rfl rfl rfl (q_len (s := r6.1) rfl Try.underlying81 rfl) ?_
          refine rv 55 rfl rfl rfl (q_build95_0_1 (v0 := (r6.1.len : Int)) (v1 := (r6.1.len : Int)) rfl rfl rfl) ?_
          refine rv 56 rfl rfl rfl (q_move (v := .pointer (d_1)) rfl rfl) ?_
          refine rv 57 rfl rfl rfl (q_move (v := .int .i64 (log_2)) rfl rfl) ?_
          refine rv 58 rfl rfl rfl (q_build97_0_1_2 (v0 := (⟨(r6.1.len : Int), (r6.1.len : Int)⟩ : S94)) (v1 := d_1) (v2 := log_2) rfl rfl rfl rfl) ?_
          obtain ⟨a9, w10, ha9, hw10, h⟩ := nw_open h
          refine rv 59 rfl rfl rfl (q_box (u := (⟨(⟨(r6.1.len : Int), (r6.1.len : Int)⟩ : S94), d_1, log_2, false⟩ : S96)) rfl ok97 rfl ha9 hw10) ?_
          refine rv 60 rfl rfl rfl (q_move (v := tSlc.enc (r6.1)) rfl rfl) ?_
          refine rv 4 rfl rfl rfl (q_assign (v := .pointer (some a9)) rfl rfl) ?_
          refine rv 5 rfl rfl rfl (q_assign (v := tSlc.enc (r6.1)) rfl rfl) ?_
          refine rv 6 rfl rfl rfl (q_assign (v := .int .i64 ((0 : Int))) rfl rfl) ?_
          refine ro_nil ?_
          refine wp_ret ?_
          exact ret_ok rfl (.cons (.tmp (v := .pointer ((some a9))) rfl) (.cons (.tmp (v := tSlc.enc (r6.1)) rfl) (.cons (.tmp (v := .int .i64 ((0 : Int))) rfl) .nil))) ⟨((some a9), r6.1, (0 : Int)), rfl, h⟩
      · refine wp_block ?_
        refine wp_seq ?_
        refine wp_text [0, 1, 2, 3, 4] rfl ?_
        refine rv 28 rfl rfl rfl (q_move (v := .int .i64 (r6.2)) rfl rfl) ?_
        refine rv 29 rfl rfl rfl (q_move (v := tSlc.enc (r4.1)) rfl rfl) ?_
        refine rv 30 rfl rfl rfl (q_len (s := r4.1) rfl Try.underlying72 rfl) ?_
        refine rv 31 rfl rfl rfl (q_lss (a := r6.2) (b := (r4.1.len : Int)) rfl rfl rfl) ?_
        refine rv 27 rfl rfl rfl (q_assign (v := .bool ((decide (r6.2 < (r4.1.len : Int))))) rfl rfl) ?_
        refine ro_nil ?_
        refine wp_if (b := (decide (r6.2 < (r4.1.len : Int)))) rfl h (fun hb20 h => ?_) (fun hb20 h => ?_)
        · refine wp_text [0, 1, 2, 3, 4, 5, 6, 7] rfl ?_
          refine rv 32 rfl rfl rfl (q_move (v := .pointer (d_1)) rfl rfl) ?_
          refine rv 33 rfl rfl rfl (q_move (v := .int .i64 (log_2)) rfl rfl) ?_
          refine rv 34 rfl rfl rfl (q_move (v := tSlc.enc (r4.1)) rfl rfl) ?_
          refine rv 35 rfl rfl rfl (q_move (v := .int .i64 (r6.2)) rfl rfl) ?_
          refine rv 36 rfl rfl rfl (q_move (v := .int .i64 (r6.2)) rfl rfl) ?_
          obtain ⟨s12, hs12, h⟩ := h
          refine rv 37 rfl rfl rfl (q_sliceHM (s := r4.1) (h := r6.2) (m := r6.2) rfl Try.underlying72 ok5 rfl rfl rfl hs12) ?_
          refine ro_wp rfl (.free rfl) (wp_cl (d := (some 38)) rfl (q_call (k := 36) (l := [.pointer (d_1), .int .i64 (log_2), tSlc.enc (s12)]) rfl ent36 rfl) h ?_)
          intro r14 w13 h
          refine rv 8 rfl rfl rfl (q_assign (v := .int .i64 (r14)) rfl rfl) ?_
          refine ro_nil ?_
          exact ⟨(r14), _, arr (upd_step (upd_step (upd_step (upd_step rfl rfl) rfl) rfl) rfl), h⟩
        · refine wp_seq ?_
          refine wp_text [0, 1, 2, 3, 4, 5] rfl ?_
          refine rv 40 rfl rfl rfl (q_move (v := .pointer (d_1)) rfl rfl) ?_
          refine rv 41 rfl rfl rfl (q_move (v := .int .i64 (log_2)) rfl rfl) ?_
          refine ro_wp rfl (.free rfl) (wp_cl (d := (some 42)) rfl (q_call (k := 37) (l := [.pointer (d_1), .int .i64 (log_2)]) rfl ent37 rfl) h ?_)
          intro r16 w15 h
          refine rv 43 rfl rfl rfl (q_move (v := .int .i64 (r6.2)) rfl rfl) ?_
          refine rv 44 rfl rfl rfl (q_lss (a := r16) (b := r6.2) rfl rfl rfl) ?_
          refine rv 39 rfl rfl rfl (q_assign (v := .bool ((decide (r16 < r6.2)))) rfl rfl) ?_
          refine ro_nil ?_
          refine wp_if (b := (decide (r16 < r6.2))) rfl h (fun hb19 h => ?_) (fun hb19 h => ?_)
          · refine wp_text [0, 1, 2, 3] rfl ?_
            refine rv 45 rfl rfl rfl (q_move (v := .pointer (d_1)) rfl rfl) ?_
            refine rv 46 rfl rfl rfl (q_move (v := .int .i64 (log_2)) rfl rfl) ?_
            refine ro_wp rfl (.free rfl) (wp_cl (d := (some 47)) rfl (q_call (k := 31) (l := [.pointer (d_1), .int .i64 (log_2)]) rfl ent31 rfl) h ?_)
            intro r18 w17 h
            refine rv 8 rfl rfl rfl (q_assign (v := .int .i64 (r18)) rfl rfl) ?_
            refine ro_nil ?_
            exact ⟨(r18), _, arr (upd_step (upd_step (upd_step (upd_step rfl rfl) rfl) rfl) rfl), h⟩
          · refine wp_skip ?_
            exact ⟨(r4.2), _, arr (upd_step (upd_step (upd_step (upd_step rfl rfl) rfl) rfl) rfl), h⟩

-- (*moiety/ballot.Acceptor).replay
def F25_j2 (a_1 : (Option Addr)) (r4 : (Slc × Int × Int)) (t_23 : Bool) (w24 : World) (R : Bool → World → Prop) : Prop :=
  ex (fun x => t_23 = true → (IxA r4.1 5 (3 : Int)) x) fun a25 =>
  ex (fun x => t_23 = true → (RdAt (tInt .i64) (a25.add 0) w24) x) fun x26 =>
  if (t_23 && (x26 == (4 : Int))) = true then (
    dr w24 fun w27 =>
    ex (IxA r4.1 5 (2 : Int)) fun a28 =>
    ex (IxA r4.1 5 (1 : Int)) fun a29 =>
    ex (IxA r4.1 5 (3 : Int)) fun a30 =>
    ex (RdAt (tInt .i64) (a28.add 2) w27) fun x31 =>
    ex (RdAt (tInt .i64) (a29.add 2) w27) fun x32 =>
    ex (RdAt tStr (a30.add 4) w27) fun x33 =>
    cl Try.prog 29 [.pointer (a_1), T46.enc ((⟨x31, x32, x33⟩ : S46))] tUnit w27 fun r35 w34 =>
    kp ((RdAt (tInt .i64) (a28.add 2) w34) x31) <|
    kp ((RdAt (tInt .i64) (a29.add 2) w34) x32) <|
    kp ((RdAt tStr (a30.add 4) w34) x33) <|
    R true w34
  ) else (
    R false w24
  )
def F25_j1 (a_1 : (Option Addr)) (r4 : (Slc × Int × Int)) (t_9 : Bool) (w10 : World) (R : Bool → World → Prop) : Prop :=
  if t_9 = true then (
    R false w10
  ) else (
    ex (fun x => ((r4.1.len : Int) == (2 : Int)) = true → (IxA r4.1 5 (0 : Int)) x) fun a11 =>
    ex (fun x => ((r4.1.len : Int) == (2 : Int)) = true → (RdAt (tInt .u64) (a11.add 1) w10) x) fun x12 =>
    if (((r4.1.len : Int) == (2 : Int)) && (x12 == (1 : Int))) = true then (
      dr w10 fun w13 =>
      ex (NC a_1) fun a14 =>
      ex (IxA r4.1 5 (1 : Int)) fun a15 =>
      ex (RdAt (tInt .i64) (a14.add 1) w13) fun x16 =>
      ex (RdAt (tInt .i64) (a15.add 2) w13) fun x17 =>
      st (tInt .i64) (a14.add 1) (max x16 x17) w13 fun w18 =>
      R true w18
    ) else (
      ex (fun x => ((r4.1.len : Int) == (4 : Int)) = true → (IxA r4.1 5 (0 : Int)) x) fun a19 =>
      ex (fun x => ((r4.1.len : Int) == (4 : Int)) = true → (RdAt (tInt .u64) (a19.add 1) w10) x) fun x20 =>
      ex (fun x => (((r4.1.len : Int) == (4 : Int)) && (x20 == (2 : Int))) = true → (IxA r4.1 5 (2 : Int)) x) fun a21 =>
      ex (fun x => (((r4.1.len : Int) == (4 : Int)) && (x20 == (2 : Int))) = true → (RdAt (tInt .i64) (a21.add 0) w10) x) fun x22 =>
      if ((((r4.1.len : Int) == (4 : Int)) && (x20 == (2 : Int))) && (x22 == (2 : Int))) = true then (
        ex (IxA r4.1 5 (2 : Int)) fun a41 =>
        ex (RdAt (tInt .i64) (a41.add 2) w10) fun x42 =>
        cl Try.prog 28 [.int .i64 (x42)] tBool w10 fun r44 w43 =>
        F25_j2 a_1 r4 r44 w43 R
      ) else (
        F25_j2 a_1 r4 false w10 R
      )
    )
  )
def F25 (a_1 : (Option Addr)) (load_2 : Slc) (w : World) (R : Bool → World → Prop) : Prop :=
  cl Try.prog 38 [tSlc.enc (load_2)] (tTup3 tSlc (tInt .i64) (tInt .i64)) w fun r4 w3 =>
  ex (fun x => (!((r4.2.2 != (0 : Int)) || (decide ((r4.1.len : Int) < (2 : Int))))) = true → (IxA r4.1 5 (0 : Int)) x) fun a5 =>
  ex (fun x => (!((r4.2.2 != (0 : Int)) || (decide ((r4.1.len : Int) < (2 : Int))))) = true → (RdAt (tInt .i64) (a5.add 0) w3) x) fun x6 =>
  ex (fun x => (!(((r4.2.2 != (0 : Int)) || (decide ((r4.1.len : Int) < (2 : Int)))) || (x6 != (1 : Int)))) = true → (IxA r4.1 5 (1 : Int)) x) fun a7 =>
  ex (fun x => (!(((r4.2.2 != (0 : Int)) || (decide ((r4.1.len : Int) < (2 : Int)))) || (x6 != (1 : Int)))) = true → (RdAt (tInt .i64) (a7.add 0) w3) x) fun x8 =>
  if ((((r4.2.2 != (0 : Int)) || (decide ((r4.1.len : Int) < (2 : Int)))) || (x6 != (1 : Int))) || (x8 != (2 : Int))) = true then (
    F25_j1 a_1 r4 true w3 R
  ) else (
    ex (IxA r4.1 5 (1 : Int)) fun a48 =>
    ex (RdAt (tInt .i64) (a48.add 2) w3) fun x49 =>
    cl Try.prog 39 [.int .i64 (x49)] tBool w3 fun r51 w50 =>
    F25_j1 a_1 r4 (!r51) w50 R
  )
theorem F25_ok {a_1 : (Option Addr)} {load_2 : Slc} {w : World} {R : Bool → World → Prop} (h : F25 a_1 load_2 w R) : cl Try.prog 25 [.pointer (a_1), tSlc.enc (load_2)] tBool w R := by
  unfold F25 at h
  refine calls_start 113 Try.func25 rfl rfl (Nat.le_of_ble_eq_true rfl) ?_
  refine wp_seq ?_
  refine wp_text [0] rfl ?_
  refine rv 4 rfl rfl rfl (q_assign (v := .bool (false)) rfl rfl) ?_
  refine ro_nil ?_
  refine wp_seq ?_
  refine wp_text [0, 1, 2, 3, 4, 5, 6, 7, 8] rfl ?_
  refine rv 9 rfl rfl rfl (q_move (v := tSlc.enc (load_2)) rfl rfl) ?_
  refine ro_wp rfl (.free rfl) (wp_cl (d := (some 10)) rfl (q_call (k := 38) (l := [tSlc.enc (load_2)]) rfl ent38 rfl) h ?_)
  intro r4 w3 h
  refine rv 8 rfl rfl rfl (q_move (v := (tTup3 tSlc (tInt .i64) (tInt .i64)).enc (r4)) rfl rfl) ?_
  refine rv 11 rfl rfl rfl (q_extract (vs := #[tSlc.enc (r4.1), .int .i64 (r4.2.1), .int .i64 (r4.2.2)]) (v := tSlc.enc (r4.1)) rfl rfl rfl) ?_
  refine rv 12 rfl rfl rfl (q_extract (vs := #[tSlc.enc (r4.1), .int .i64 (r4.2.1), .int .i64 (r4.2.2)]) (v := .int .i64 (r4.2.1)) rfl rfl rfl) ?_
  refine rv 13 rfl rfl rfl (q_extract (vs := #[tSlc.enc (r4.1), .int .i64 (r4.2.1), .int .i64 (r4.2.2)]) (v := .int .i64 (r4.2.2)) rfl rfl rfl) ?_
  refine rv 5 rfl rfl rfl (q_assign (v := tSlc.enc (r4.1)) rfl rfl) ?_
  refine rv 6 rfl rfl rfl (q_assign (v := .int .i64 (r4.2.1)) rfl rfl) ?_
  refine rv 7 rfl rfl rfl (q_assign (v := .int .i64 (r4.2.2)) rfl rfl) ?_
  refine ro_nil ?_
  refine wp_seq ?_
  refine wp_seq ?_
  refine wp_text [0, 1, 2, 3, 4, 5, 6, 7, 8, 9, 10, 11, 12, 13, 14, 15, 16, 17, 18, 19, 20, 21, 22, 23, 24, 25, 26, 27, 28] rfl ?_
  refine rv 14 rfl rfl rfl (q_move (v := .int .i64 (r4.2.2)) rfl rfl) ?_
  refine rv 15 rfl rfl rfl (q_neq (a := r4.2.2) (b := (0 : Int)) rfl rfl rfl) ?_
  refine rv 16 rfl rfl rfl (q_move (v := .bool ((r4.2.2 != (0 : Int)))) rfl rfl) ?_
  refine ro_gval (g := (!(r4.2.2 != (0 : Int)))) (d := (some 17)) rfl (.no 2 16 true (r4.2.2 != (0 : Int)) rfl rfl rfl rfl) rfl (fun hg => q_move (v := tSlc.enc (r4.1)) rfl rfl) ?_
  refine ro_gval (g := (!(r4.2.2 != (0 : Int)))) (d := (some 18)) rfl (.no 2 16 true (r4.2.2 != (0 : Int)) rfl rfl rfl rfl) rfl (fun hg => q_len (s := r4.1) rfl Try.underlying113 (gvb_yes hg)) ?_
  refine ro_gval (g := (!(r4.2.2 != (0 : Int)))) (d := (some 19)) rfl (.no 2 16 true (r4.2.2 != (0 : Int)) rfl rfl rfl rfl) rfl (fun hg => q_lss (a := (r4.1.len : Int)) (b := (2 : Int)) rfl (gvb_yes hg) rfl) ?_
  refine rv 20 rfl rfl rfl (q_pickGF (a := (r4.2.2 != (0 : Int))) (c := (decide ((r4.1.len : Int) < (2 : Int)))) rfl rfl rfl rfl) ?_
  refine rv 21 rfl rfl rfl (q_move (v := .bool (((r4.2.2 != (0 : Int)) || (decide ((r4.1.len : Int) < (2 : Int)))))) rfl rfl) ?_
  refine ro_gval (g := (!((r4.2.2 != (0 : Int)) || (decide ((r4.1.len : Int) < (2 : Int)))))) (d := (some 22)) rfl (.no 7 21 true ((r4.2.2 != (0 : Int)) || (decide ((r4.1.len : Int) < (2 : Int)))) rfl rfl rfl rfl) rfl (fun hg => q_move (v := tSlc.enc (r4.1)) rfl rfl) ?_
  obtain ⟨a5, ha5, h⟩ := h
  refine ro_gval (g := (!((r4.2.2 != (0 : Int)) || (decide ((r4.1.len : Int) < (2 : Int)))))) (d := (some 23)) rfl (.no 7 21 true ((r4.2.2 != (0 : Int)) || (decide ((r4.1.len : Int) < (2 : Int)))) rfl rfl rfl rfl) rfl (fun hg => q_indexAddr (s := r4.1) (i := (0 : Int)) rfl Try.underlying113 ok91 (gvb_yes hg) rfl (ha5 hg)) ?_
  refine ro_gval (g := (!((r4.2.2 != (0 : Int)) || (decide ((r4.1.len : Int) < (2 : Int)))))) (d := (some 24)) rfl (.no 7 21 true ((r4.2.2 != (0 : Int)) || (decide ((r4.1.len : Int) < (2 : Int)))) rfl rfl rfl rfl) rfl (fun hg => q_fieldAddr (a := a5) (off := 0) rfl Try.underlying91 rfl rfl ok87 (by decide) (gvb_yes hg)) ?_
  obtain ⟨x6, hx6, h⟩ := h
  refine ro_gval (g := (!((r4.2.2 != (0 : Int)) || (decide ((r4.1.len : Int) < (2 : Int)))))) (d := (some 25)) rfl (.no 7 21 true ((r4.2.2 != (0 : Int)) || (decide ((r4.1.len : Int) < (2 : Int)))) rfl rfl rfl rfl) rfl (fun hg => q_load (T := (tInt .i64)) (u := x6) (a := (a5.add 0)) rfl ok87 (gvb_yes hg) (hx6 hg)) ?_
  refine ro_gval (g := (!((r4.2.2 != (0 : Int)) || (decide ((r4.1.len : Int) < (2 : Int)))))) (d := (some 26)) rfl (.no 7 21 true ((r4.2.2 != (0 : Int)) || (decide ((r4.1.len : Int) < (2 : Int)))) rfl rfl rfl rfl) rfl (fun hg => q_neq (a := x6) (b := (1 : Int)) rfl (gvb_yes hg) rfl) ?_
  refine rv 27 rfl rfl rfl (q_pickGF (a := ((r4.2.2 != (0 : Int)) || (decide ((r4.1.len : Int) < (2 : Int))))) (c := (x6 != (1 : Int))) rfl rfl rfl rfl) ?_
  refine rv 28 rfl rfl rfl (q_move (v := .bool ((((r4.2.2 != (0 : Int)) || (decide ((r4.1.len : Int) < (2 : Int)))) || (x6 != (1 : Int))))) rfl rfl) ?_
  refine ro_gval (g := (!(((r4.2.2 != (0 : Int)) || (decide ((r4.1.len : Int) < (2 : Int)))) || (x6 != (1 : Int))))) (d := (some 29)) rfl (.no 14 28 true (((r4.2.2 != (0 : Int)) || (decide ((r4.1.len : Int) < (2 : Int)))) || (x6 != (1 : Int))) rfl rfl rfl rfl) rfl (fun hg => q_move (v := tSlc.enc (r4.1)) rfl rfl) ?_
  obtain ⟨a7, ha7, h⟩ := h
  refine ro_gval (g := (!(((r4.2.2 != (0 : Int)) || (decide ((r4.1.len : Int) < (2 : Int)))) || (x6 != (1 : Int))))) (d := (some 30)) rfl (.no 14 28 true (((r4.2.2 != (0 : Int)) || (decide ((r4.1.len : Int) < (2 : Int)))) || (x6 != (1 : Int))) rfl rfl rfl rfl) rfl (fun hg => q_indexAddr (s := r4.1) (i := (1 : Int)) rfl Try.underlying113 ok91 (gvb_yes hg) rfl (ha7 hg)) ?_
  refine ro_gval (g := (!(((r4.2.2 != (0 : Int)) || (decide ((r4.1.len : Int) < (2 : Int)))) || (x6 != (1 : Int))))) (d := (some 31)) rfl (.no 14 28 true (((r4.2.2 != (0 : Int)) || (decide ((r4.1.len : Int) < (2 : Int)))) || (x6 != (1 : Int))) rfl rfl rfl rfl) rfl (fun hg => q_fieldAddr (a := a7) (off := 0) rfl Try.underlying91 rfl rfl ok87 (by decide) (gvb_yes hg)) ?_
  obtain ⟨x8, hx8, h⟩ := h
  refine ro_gval (g := (!(((r4.2.2 != (0 : Int)) || (decide ((r4.1.len : Int) < (2 : Int)))) || (x6 != (1 : Int))))) (d := (some 32)) rfl (.no 14 28 true (((r4.2.2 != (0 : Int)) || (decide ((r4.1.len : Int) < (2 : Int)))) || (x6 != (1 : Int))) rfl rfl rfl rfl) rfl (fun hg => q_load (T := (tInt .i64)) (u := x8) (a := (a7.add 0)) rfl ok87 (gvb_yes hg) (hx8 hg)) ?_
  refine ro_gval (g := (!(((r4.2.2 != (0 : Int)) || (decide ((r4.1.len : Int) < (2 : Int)))) || (x6 != (1 : Int))))) (d := (some 33)) rfl (.no 14 28 true (((r4.2.2 != (0 : Int)) || (decide ((r4.1.len : Int) < (2 : Int)))) || (x6 != (1 : Int))) rfl rfl rfl rfl) rfl (fun hg => q_neq (a := x8) (b := (2 : Int)) rfl (gvb_yes hg) rfl) ?_
  refine rv 34 rfl rfl rfl (q_pickGF (a := (((r4.2.2 != (0 : Int)) || (decide ((r4.1.len : Int) < (2 : Int)))) || (x6 != (1 : Int)))) (c := (x8 != (2 : Int))) rfl rfl rfl rfl) ?_
  refine rv 35 rfl rfl rfl (q_move (v := .bool (((((r4.2.2 != (0 : Int)) || (decide ((r4.1.len : Int) < (2 : Int)))) || (x6 != (1 : Int))) || (x8 != (2 : Int))))) rfl rfl) ?_
  refine ro_join (σ := Bool) (J := fun (s : Bool) w => F25_j1 a_1 r4 s w R) (fr := fun g (s : Bool) => upd (upd (upd (g) 0 (.pointer (a_1))) 5 (tSlc.enc (r4.1))) 42 (.bool (s))) [22, 23, 24, 25, 26, 27, 28] [] ?_ ?_
  · rintro t_9 g w10 h
    unfold F25_j1 at h
    refine ro_nil ?_
    refine wp_if (b := t_9) rfl h (fun hb46 h => ?_) (fun hb46 h => ?_)
    · refine wp_seq ?_
      refine wp_text [0] rfl ?_
      refine rv 4 rfl rfl rfl (q_assign (v := .bool (false)) rfl rfl) ?_
      refine ro_nil ?_
      refine wp_ret ?_
      exact ret_ok rfl (.cons (.tmp (v := .bool (false)) rfl) .nil) ⟨false, rfl, h⟩
    · refine wp_skip ?_
      refine wp_seq ?_
      refine wp_block ?_
      refine wp_seq ?_
      refine wp_text [0, 1, 2, 3, 4, 5, 6, 7, 8, 9, 10] rfl ?_
      refine rv 44 rfl rfl rfl (q_move (v := tSlc.enc (r4.1)) rfl rfl) ?_
      refine rv 45 rfl rfl rfl (q_len (s := r4.1) rfl Try.underlying113 rfl) ?_
      refine rv 46 rfl rfl rfl (q_eql (a := (r4.1.len : Int)) (b := (2 : Int)) rfl rfl rfl) ?_
      refine rv 47 rfl rfl rfl (q_move (v := .bool (((r4.1.len : Int) == (2 : Int)))) rfl rfl) ?_
      refine ro_gval (g := ((r4.1.len : Int) == (2 : Int))) (d := (some 48)) rfl (.yes 3 47 true ((r4.1.len : Int) == (2 : Int)) rfl rfl rfl rfl) rfl (fun hg => q_move (v := tSlc.enc (r4.1)) rfl rfl) ?_
      obtain ⟨a11, ha11, h⟩ := h
      refine ro_gval (g := ((r4.1.len : Int) == (2 : Int))) (d := (some 49)) rfl (.yes 3 47 true ((r4.1.len : Int) == (2 : Int)) rfl rfl rfl rfl) rfl (fun hg => q_indexAddr (s := r4.1) (i := (0 : Int)) rfl Try.underlying113 ok91 (gvb_yes hg) rfl (ha11 hg)) ?_
      refine ro_gval (g := ((r4.1.len : Int) == (2 : Int))) (d := (some 50)) rfl (.yes 3 47 true ((r4.1.len : Int) == (2 : Int)) rfl rfl rfl rfl) rfl (fun hg => q_fieldAddr (a := a11) (off := 1) rfl Try.underlying91 rfl rfl ok88 (by decide) (gvb_yes hg)) ?_
      obtain ⟨x12, hx12, h⟩ := h
      refine ro_gval (g := ((r4.1.len : Int) == (2 : Int))) (d := (some 51)) rfl (.yes 3 47 true ((r4.1.len : Int) == (2 : Int)) rfl rfl rfl rfl) rfl (fun hg => q_load (T := (tInt .u64)) (u := x12) (a := (a11.add 1)) rfl ok88 (gvb_yes hg) (hx12 hg)) ?_
      refine ro_gval (g := ((r4.1.len : Int) == (2 : Int))) (d := (some 52)) rfl (.yes 3 47 true ((r4.1.len : Int) == (2 : Int)) rfl rfl rfl rfl) rfl (fun hg => q_eql (a := x12) (b := (1 : Int)) rfl (gvb_yes hg) rfl) ?_
      refine rv 53 rfl rfl rfl (q_pickGT (a := ((r4.1.len : Int) == (2 : Int))) (b := (x12 == (1 : Int))) rfl rfl rfl rfl) ?_
      refine rv 43 rfl rfl rfl (q_assign (v := .bool ((((r4.1.len : Int) == (2 : Int)) && (x12 == (1 : Int))))) rfl rfl) ?_
      refine ro_nil ?_
      refine wp_if (b := (((r4.1.len : Int) == (2 : Int)) && (x12 == (1 : Int)))) rfl h (fun hb45 h => ?_) (fun hb45 h => ?_)
      · refine wp_seq ?_
        obtain ⟨w13, hw13, h⟩ := dr_open h
        refine wp_drawn 13 mixed rfl (by kernel_rfl) (by intro c a d v w h; cases d <;> exact h) hw13 (fun hD => ?_)
        refine rp 0 54 hD rfl rfl rfl (fun _ => q_move (v := .pointer (a_1)) rfl rfl) ?_
        refine rp 1 55 hD rfl rfl rfl (fun _ => q_move (v := .pointer (a_1)) rfl rfl) ?_
        obtain ⟨a14, ha14, h⟩ := h
        refine rp 2 56 hD rfl rfl rfl (fun _ => q_nilCheck (a := a14) rfl (congrArg Value.pointer ha14)) ?_
        refine rp 3 57 hD rfl rfl rfl (fun _ => q_fieldAddr (a := a14) (off := 1) rfl Try.underlying53 rfl rfl ok2 (by decide) rfl) ?_
        refine rp 5 59 hD rfl rfl rfl (fun _ => q_move (v := tSlc.enc (r4.1)) rfl rfl) ?_
        obtain ⟨a15, ha15, h⟩ := h
        refine rp 6 60 hD rfl rfl rfl (fun _ => q_indexAddr (s := r4.1) (i := (1 : Int)) rfl Try.underlying113 ok91 rfl rfl ha15) ?_
        refine rp 7 61 hD rfl rfl rfl (fun _ => q_fieldAddr (a := a15) (off := 2) rfl Try.underlying91 rfl rfl ok2 (by decide) rfl) ?_
        obtain ⟨x16, hx16, h⟩ := h
        refine rd_read (i := 4) (d := (some 58)) (fun W => (RdAt (tInt .i64) (a14.add 1) W) x16) hD (by kernel_rfl) (by kernel_rfl) rfl (.free rfl) rfl (fun W hr => q_load (T := (tInt .i64)) (u := x16) (a := (a14.add 1)) rfl ok2 rfl hr) hx16 ?_
        obtain ⟨x17, hx17, h⟩ := h
        refine rd_read (i := 8) (d := (some 62)) (fun W => (RdAt (tInt .i64) (a15.add 2) W) x17) hD (by kernel_rfl) (by kernel_rfl) rfl (.free rfl) rfl (fun W hr => q_load (T := (tInt .i64)) (u := x17) (a := (a15.add 2)) rfl ok2 rfl hr) hx17 ?_
        refine rp 9 63 hD rfl rfl rfl (fun _ => q_max (a := x16) (b := x17) rfl rfl rfl) ?_
        refine rp 10 64 hD rfl rfl rfl (fun _ => q_nilCheck (a := a14) rfl (congrArg Value.pointer ha14)) ?_
        refine rp 11 65 hD rfl rfl rfl (fun _ => q_fieldAddr (a := a14) (off := 1) rfl Try.underlying53 rfl rfl ok2 (by decide) rfl) ?_
        refine rd_one (i := 12) (by kernel_rfl) ?_
        obtain ⟨w18, hw18, hrw18, h⟩ := st_open h
        refine po_skip (d := none) rfl (.free rfl) rfl (q_store (T := (tInt .i64)) (u := (max x16 x17)) (a := (a14.add 1)) rfl ok2 rfl rfl hrw18 hw18) ⟨(hk_wait (by kernel_rfl) (hk_wait (by kernel_rfl) hk_nil)), ?_⟩
        refine rd_nil (by kernel_rfl) ?_
        refine wp_seq ?_
        refine wp_text [0] rfl ?_
        refine rv 4 rfl rfl rfl (q_assign (v := .bool (true)) rfl rfl) ?_
        refine ro_nil ?_
        refine wp_ret ?_
        exact ret_ok rfl (.cons (.tmp (v := .bool (true)) rfl) .nil) ⟨true, rfl, h⟩
      · refine wp_seq ?_
        refine wp_text [0, 1, 2, 3, 4, 5, 6, 7, 8, 9, 10, 11, 12, 13, 14, 15, 16, 17, 18, 19, 20, 21, 22, 23, 24, 25, 26, 27, 28, 29, 30, 31] rfl ?_
        refine rv 67 rfl rfl rfl (q_move (v := tSlc.enc (r4.1)) rfl rfl) ?_
        refine rv 68 rfl rfl rfl (q_len (s := r4.1) rfl Try.underlying113 rfl) ?_
        refine rv 69 rfl rfl rfl (q_eql (a := (r4.1.len : Int)) (b := (4 : Int)) rfl rfl rfl) ?_
        refine rv 70 rfl rfl rfl (q_move (v := .bool (((r4.1.len : Int) == (4 : Int)))) rfl rfl) ?_
        refine ro_gval (g := ((r4.1.len : Int) == (4 : Int))) (d := (some 71)) rfl (.yes 3 70 true ((r4.1.len : Int) == (4 : Int)) rfl rfl rfl rfl) rfl (fun hg => q_move (v := tSlc.enc (r4.1)) rfl rfl) ?_
        obtain ⟨a19, ha19, h⟩ := h
        refine ro_gval (g := ((r4.1.len : Int) == (4 : Int))) (d := (some 72)) rfl (.yes 3 70 true ((r4.1.len : Int) == (4 : Int)) rfl rfl rfl rfl) rfl (fun hg => q_indexAddr (s := r4.1) (i := (0 : Int)) rfl Try.underlying113 ok91 (gvb_yes hg) rfl (ha19 hg)) ?_
        refine ro_gval (g := ((r4.1.len : Int) == (4 : Int))) (d := (some 73)) rfl (.yes 3 70 true ((r4.1.len : Int) == (4 : Int)) rfl rfl rfl rfl) rfl (fun hg => q_fieldAddr (a := a19) (off := 1) rfl Try.underlying91 rfl rfl ok88 (by decide) (gvb_yes hg)) ?_
        obtain ⟨x20, hx20, h⟩ := h
        refine ro_gval (g := ((r4.1.len : Int) == (4 : Int))) (d := (some 74)) rfl (.yes 3 70 true ((r4.1.len : Int) == (4 : Int)) rfl rfl rfl rfl) rfl (fun hg => q_load (T := (tInt .u64)) (u := x20) (a := (a19.add 1)) rfl ok88 (gvb_yes hg) (hx20 hg)) ?_
        refine ro_gval (g := ((r4.1.len : Int) == (4 : Int))) (d := (some 75)) rfl (.yes 3 70 true ((r4.1.len : Int) == (4 : Int)) rfl rfl rfl rfl) rfl (fun hg => q_eql (a := x20) (b := (2 : Int)) rfl (gvb_yes hg) rfl) ?_
        refine rv 76 rfl rfl rfl (q_pickGT (a := ((r4.1.len : Int) == (4 : Int))) (b := (x20 == (2 : Int))) rfl rfl rfl rfl) ?_
        refine rv 77 rfl rfl rfl (q_move (v := .bool ((((r4.1.len : Int) == (4 : Int)) && (x20 == (2 : Int))))) rfl rfl) ?_
        refine ro_gval (g := (((r4.1.len : Int) == (4 : Int)) && (x20 == (2 : Int)))) (d := (some 78)) rfl (.yes 10 77 true (((r4.1.len : Int) == (4 : Int)) && (x20 == (2 : Int))) rfl rfl rfl rfl) rfl (fun hg => q_move (v := tSlc.enc (r4.1)) rfl rfl) ?_
        obtain ⟨a21, ha21, h⟩ := h
        refine ro_gval (g := (((r4.1.len : Int) == (4 : Int)) && (x20 == (2 : Int)))) (d := (some 79)) rfl (.yes 10 77 true (((r4.1.len : Int) == (4 : Int)) && (x20 == (2 : Int))) rfl rfl rfl rfl) rfl (fun hg => q_indexAddr (s := r4.1) (i := (2 : Int)) rfl Try.underlying113 ok91 (gvb_yes hg) rfl (ha21 hg)) ?_
        refine ro_gval (g := (((r4.1.len : Int) == (4 : Int)) && (x20 == (2 : Int)))) (d := (some 80)) rfl (.yes 10 77 true (((r4.1.len : Int) == (4 : Int)) && (x20 == (2 : Int))) rfl rfl rfl rfl) rfl (fun hg => q_fieldAddr (a := a21) (off := 0) rfl Try.underlying91 rfl rfl ok87 (by decide) (gvb_yes hg)) ?_
        obtain ⟨x22, hx22, h⟩ := h
        refine ro_gval (g := (((r4.1.len : Int) == (4 : Int)) && (x20 == (2 : Int)))) (d := (some 81)) rfl (.yes 10 77 true (((r4.1.len : Int) == (4 : Int)) && (x20 == (2 : Int))) rfl rfl rfl rfl) rfl (fun hg => q_load (T := (tInt .i64)) (u := x22) (a := (a21.add 0)) rfl ok87 (gvb_yes hg) (hx22 hg)) ?_
        refine ro_gval (g := (((r4.1.len : Int) == (4 : Int)) && (x20 == (2 : Int)))) (d := (some 82)) rfl (.yes 10 77 true (((r4.1.len : Int) == (4 : Int)) && (x20 == (2 : Int))) rfl rfl rfl rfl) rfl (fun hg => q_eql (a := x22) (b := (2 : Int)) rfl (gvb_yes hg) rfl) ?_
        refine rv 83 rfl rfl rfl (q_pickGT (a := (((r4.1.len : Int) == (4 : Int)) && (x20 == (2 : Int)))) (b := (x22 == (2 : Int))) rfl rfl rfl rfl) ?_
        refine rv 84 rfl rfl rfl (q_move (v := .bool (((((r4.1.len : Int) == (4 : Int)) && (x20 == (2 : Int))) && (x22 == (2 : Int))))) rfl rfl) ?_
        refine ro_join (σ := Bool) (J := fun (s : Bool) w => F25_j2 a_1 r4 s w R) (fr := fun g (s : Bool) => upd (upd (upd (g) 0 (.pointer (a_1))) 5 (tSlc.enc (r4.1))) 90 (.bool (s))) [18, 19, 20, 21, 22, 23] [24, 25, 26, 27, 28, 29, 30, 31] ?_ ?_
        · rintro t_23 g w24 h
          unfold F25_j2 at h
          refine rv 91 rfl rfl rfl (q_move (v := .bool (t_23)) rfl rfl) ?_
          refine ro_gval (g := t_23) (d := (some 92)) rfl (.yes 24 91 true t_23 rfl rfl rfl rfl) rfl (fun hg => q_move (v := tSlc.enc (r4.1)) rfl rfl) ?_
          obtain ⟨a25, ha25, h⟩ := h
          refine ro_gval (g := t_23) (d := (some 93)) rfl (.yes 24 91 true t_23 rfl rfl rfl rfl) rfl (fun hg => q_indexAddr (s := r4.1) (i := (3 : Int)) rfl Try.underlying113 ok91 (gvb_yes hg) rfl (ha25 hg)) ?_
          refine ro_gval (g := t_23) (d := (some 94)) rfl (.yes 24 91 true t_23 rfl rfl rfl rfl) rfl (fun hg => q_fieldAddr (a := a25) (off := 0) rfl Try.underlying91 rfl rfl ok87 (by decide) (gvb_yes hg)) ?_
          obtain ⟨x26, hx26, h⟩ := h
          refine ro_gval (g := t_23) (d := (some 95)) rfl (.yes 24 91 true t_23 rfl rfl rfl rfl) rfl (fun hg => q_load (T := (tInt .i64)) (u := x26) (a := (a25.add 0)) rfl ok87 (gvb_yes hg) (hx26 hg)) ?_
          refine ro_gval (g := t_23) (d := (some 96)) rfl (.yes 24 91 true t_23 rfl rfl rfl rfl) rfl (fun hg => q_eql (a := x26) (b := (4 : Int)) rfl (gvb_yes hg) rfl) ?_
          refine rv 97 rfl rfl rfl (q_pickGT (a := t_23) (b := (x26 == (4 : Int))) rfl rfl rfl rfl) ?_
          refine rv 66 rfl rfl rfl (q_assign (v := .bool ((t_23 && (x26 == (4 : Int))))) rfl rfl) ?_
          refine ro_nil ?_
          refine wp_if (b := (t_23 && (x26 == (4 : Int)))) rfl h (fun hb39 h => ?_) (fun hb39 h => ?_)
          · refine wp_seq ?_
            obtain ⟨w27, hw27, h⟩ := dr_open h
            refine wp_drawn 15 mixed rfl (by kernel_rfl) (by intro c a d v w h; cases d <;> exact h) hw27 (fun hD => ?_)
            refine rp 0 98 hD rfl rfl rfl (fun _ => q_move (v := .pointer (a_1)) rfl rfl) ?_
            refine rp 1 99 hD rfl rfl rfl (fun _ => q_move (v := tSlc.enc (r4.1)) rfl rfl) ?_
            obtain ⟨a28, ha28, h⟩ := h
            refine rp 2 100 hD rfl rfl rfl (fun _ => q_indexAddr (s := r4.1) (i := (2 : Int)) rfl Try.underlying113 ok91 rfl rfl ha28) ?_
            refine rp 3 101 hD rfl rfl rfl (fun _ => q_fieldAddr (a := a28) (off := 2) rfl Try.underlying91 rfl rfl ok2 (by decide) rfl) ?_
            refine rp 5 103 hD rfl rfl rfl (fun _ => q_move (v := tSlc.enc (r4.1)) rfl rfl) ?_
            obtain ⟨a29, ha29, h⟩ := h
            refine rp 6 104 hD rfl rfl rfl (fun _ => q_indexAddr (s := r4.1) (i := (1 : Int)) rfl Try.underlying113 ok91 rfl rfl ha29) ?_
            refine rp 7 105 hD rfl rfl rfl (fun _ => q_fieldAddr (a := a29) (off := 2) rfl Try.underlying91 rfl rfl ok2 (by decide) rfl) ?_
            refine rp 9 107 hD rfl rfl rfl (fun _ => q_move (v := tSlc.enc (r4.1)) rfl rfl) ?_
            obtain ⟨a30, ha30, h⟩ := h
            refine rp 10 108 hD rfl rfl rfl (fun _ => q_indexAddr (s := r4.1) (i := (3 : Int)) rfl Try.underlying113 ok91 rfl rfl ha30) ?_
            refine rp 11 109 hD rfl rfl rfl (fun _ => q_fieldAddr (a := a30) (off := 4) rfl Try.underlying91 rfl rfl ok9 (by decide) rfl) ?_
            obtain ⟨x31, hx31, h⟩ := h
            refine rd_read (i := 4) (d := (some 102)) (fun W => (RdAt (tInt .i64) (a28.add 2) W) x31) hD (by kernel_rfl) (by kernel_rfl) rfl (.free rfl) rfl (fun W hr => q_load (T := (tInt .i64)) (u := x31) (a := (a28.add 2)) rfl ok2 rfl hr) hx31 ?_
            obtain ⟨x32, hx32, h⟩ := h
            refine rd_read (i := 8) (d := (some 106)) (fun W => (RdAt (tInt .i64) (a29.add 2) W) x32) hD (by kernel_rfl) (by kernel_rfl) rfl (.free rfl) rfl (fun W hr => q_load (T := (tInt .i64)) (u := x32) (a := (a29.add 2)) rfl ok2 rfl hr) hx32 ?_
            obtain ⟨x33, hx33, h⟩ := h
            refine rd_read (i := 12) (d := (some 110)) (fun W => (RdAt tStr (a30.add 4) W) x33) hD (by kernel_rfl) (by kernel_rfl) rfl (.free rfl) rfl (fun W hr => q_load (T := tStr) (u := x33) (a := (a30.add 4)) rfl ok9 rfl hr) hx33 ?_
            refine rp 13 111 hD rfl rfl rfl (fun _ => q_build47_0_1_2 (v0 := x31) (v1 := x32) (v2 := x33) rfl rfl rfl rfl) ?_
            refine rd_one (i := 14) (by kernel_rfl) ?_
            refine po_wp rfl (.free rfl) (wp_cl (d := (some 112)) rfl (q_call (k := 29) (l := [.pointer (a_1), T46.enc ((⟨x31, x32, x33⟩ : S46))]) rfl ent29 rfl) h ?_)
            intro r35 w34 h
            obtain ⟨hk36, h⟩ := h
            obtain ⟨hk37, h⟩ := h
            obtain ⟨hk38, h⟩ := h
            refine ⟨(hk_keep (fun _ => hk38) (hk_keep (fun _ => hk37) (hk_keep (fun _ => hk36) hk_nil))), ?_⟩
            refine rd_nil (by kernel_rfl) ?_
            refine wp_seq ?_
            refine wp_text [0] rfl ?_
            refine rv 4 rfl rfl rfl (q_assign (v := .bool (true)) rfl rfl) ?_
            refine ro_nil ?_
            refine wp_ret ?_
            exact ret_ok rfl (.cons (.tmp (v := .bool (true)) rfl) .nil) ⟨true, rfl, h⟩
          · refine wp_skip ?_
            refine wp_seq ?_
            refine wp_text [0] rfl ?_
            refine rv 4 rfl rfl rfl (q_assign (v := .bool (false)) rfl rfl) ?_
            refine ro_nil ?_
            refine wp_ret ?_
            exact ret_ok rfl (.cons (.tmp (v := .bool (false)) rfl) .nil) ⟨false, rfl, h⟩
        · refine ro_if (b := ((((r4.1.len : Int) == (4 : Int)) && (x20 == (2 : Int))) && (x22 == (2 : Int)))) h (fun hb40 h => ?_) (fun hb40 h => ?_)
          · refine ro_val (d := (some 85)) rfl (.by_ 17 true 84 ((((r4.1.len : Int) == (4 : Int)) && (x20 == (2 : Int))) && (x22 == (2 : Int))) rfl rfl rfl hb40) rfl (q_move (v := tSlc.enc (r4.1)) rfl rfl) ?_
            obtain ⟨a41, ha41, h⟩ := h
            refine ro_val (d := (some 86)) rfl (.by_ 17 true 84 ((((r4.1.len : Int) == (4 : Int)) && (x20 == (2 : Int))) && (x22 == (2 : Int))) rfl rfl rfl hb40) rfl (q_indexAddr (s := r4.1) (i := (2 : Int)) rfl Try.underlying113 ok91 rfl rfl ha41) ?_
            refine ro_val (d := (some 87)) rfl (.by_ 17 true 84 ((((r4.1.len : Int) == (4 : Int)) && (x20 == (2 : Int))) && (x22 == (2 : Int))) rfl rfl rfl hb40) rfl (q_fieldAddr (a := a41) (off := 2) rfl Try.underlying91 rfl rfl ok2 (by decide) rfl) ?_
            obtain ⟨x42, hx42, h⟩ := h
            refine ro_val (d := (some 88)) rfl (.by_ 17 true 84 ((((r4.1.len : Int) == (4 : Int)) && (x20 == (2 : Int))) && (x22 == (2 : Int))) rfl rfl rfl hb40) rfl (q_load (T := (tInt .i64)) (u := x42) (a := (a41.add 2)) rfl ok2 rfl hx42) ?_
            refine ro_wp rfl (.by_ 17 true 84 ((((r4.1.len : Int) == (4 : Int)) && (x20 == (2 : Int))) && (x22 == (2 : Int))) rfl rfl rfl hb40) (wp_cl (d := (some 89)) rfl (q_call (k := 28) (l := [.int .i64 (x42)]) rfl ent28 rfl) h ?_)
            intro r44 w43 h
            refine rv 90 rfl rfl rfl (q_pickT (v := .bool (r44)) (b := ((((r4.1.len : Int) == (4 : Int)) && (x20 == (2 : Int))) && (x22 == (2 : Int)))) rfl rfl hb40 rfl) ?_
            refine ro_nil ?_
            exact ⟨(r44), _, arr (upd_step (upd_step (upd_step rfl rfl) rfl) rfl), h⟩
          · refine ro_bar (d := (some 85)) rfl (.by_ 17 true 84 ((((r4.1.len : Int) == (4 : Int)) && (x20 == (2 : Int))) && (x22 == (2 : Int))) rfl rfl rfl hb40) rfl ?_
            refine ro_bar (d := (some 86)) rfl (.by_ 17 true 84 ((((r4.1.len : Int) == (4 : Int)) && (x20 == (2 : Int))) && (x22 == (2 : Int))) rfl rfl rfl hb40) rfl ?_
            refine ro_bar (d := (some 87)) rfl (.by_ 17 true 84 ((((r4.1.len : Int) == (4 : Int)) && (x20 == (2 : Int))) && (x22 == (2 : Int))) rfl rfl rfl hb40) rfl ?_
            refine ro_bar (d := (some 88)) rfl (.by_ 17 true 84 ((((r4.1.len : Int) == (4 : Int)) && (x20 == (2 : Int))) && (x22 == (2 : Int))) rfl rfl rfl hb40) rfl ?_
            refine ro_bar (d := (some 89)) rfl (.by_ 17 true 84 ((((r4.1.len : Int) == (4 : Int)) && (x20 == (2 : Int))) && (x22 == (2 : Int))) rfl rfl rfl hb40) rfl ?_
            refine rv 90 rfl rfl rfl (q_pickF (v := .bool (false)) (b := ((((r4.1.len : Int) == (4 : Int)) && (x20 == (2 : Int))) && (x22 == (2 : Int)))) rfl rfl hb40 rfl) ?_
            refine ro_nil ?_
            exact ⟨(false), _, arr (upd_step (upd_step (upd_step rfl rfl) rfl) rfl), h⟩
  · refine ro_if (b := ((((r4.2.2 != (0 : Int)) || (decide ((r4.1.len : Int) < (2 : Int)))) || (x6 != (1 : Int))) || (x8 != (2 : Int)))) h (fun hb47 h => ?_) (fun hb47 h => ?_)
    · refine ro_bar (d := (some 36)) rfl (.by_ 21 false 35 ((((r4.2.2 != (0 : Int)) || (decide ((r4.1.len : Int) < (2 : Int)))) || (x6 != (1 : Int))) || (x8 != (2 : Int))) rfl rfl rfl hb47) rfl ?_
      refine ro_bar (d := (some 37)) rfl (.by_ 21 false 35 ((((r4.2.2 != (0 : Int)) || (decide ((r4.1.len : Int) < (2 : Int)))) || (x6 != (1 : Int))) || (x8 != (2 : Int))) rfl rfl rfl hb47) rfl ?_
      refine ro_bar (d := (some 38)) rfl (.by_ 21 false 35 ((((r4.2.2 != (0 : Int)) || (decide ((r4.1.len : Int) < (2 : Int)))) || (x6 != (1 : Int))) || (x8 != (2 : Int))) rfl rfl rfl hb47) rfl ?_
      refine ro_bar (d := (some 39)) rfl (.by_ 21 false 35 ((((r4.2.2 != (0 : Int)) || (decide ((r4.1.len : Int) < (2 : Int)))) || (x6 != (1 : Int))) || (x8 != (2 : Int))) rfl rfl rfl hb47) rfl ?_
      refine ro_bar (d := (some 40)) rfl (.by_ 21 false 35 ((((r4.2.2 != (0 : Int)) || (decide ((r4.1.len : Int) < (2 : Int)))) || (x6 != (1 : Int))) || (x8 != (2 : Int))) rfl rfl rfl hb47) rfl ?_
      refine ro_bar (d := (some 41)) rfl (.by_ 21 false 35 ((((r4.2.2 != (0 : Int)) || (decide ((r4.1.len : Int) < (2 : Int)))) || (x6 != (1 : Int))) || (x8 != (2 : Int))) rfl rfl rfl hb47) rfl ?_
      refine rv 42 rfl rfl rfl (q_pickT (v := .bool (true)) (b := ((((r4.2.2 != (0 : Int)) || (decide ((r4.1.len : Int) < (2 : Int)))) || (x6 != (1 : Int))) || (x8 != (2 : Int)))) rfl rfl hb47 rfl) ?_
      refine ro_nil ?_
      exact ⟨(true), _, arr (upd_step (upd_step (upd_step rfl rfl) rfl) rfl), h⟩
    · refine ro_val (d := (some 36)) rfl (.by_ 21 false 35 ((((r4.2.2 != (0 : Int)) || (decide ((r4.1.len : Int) < (2 : Int)))) || (x6 != (1 : Int))) || (x8 != (2 : Int))) rfl rfl rfl hb47) rfl (q_move (v := tSlc.enc (r4.1)) rfl rfl) ?_
      obtain ⟨a48, ha48, h⟩ := h
      refine ro_val (d := (some 37)) rfl (.by_ 21 false 35 ((((r4.2.2 != (0 : Int)) || (decide ((r4.1.len : Int) < (2 : Int)))) || (x6 != (1 : Int))) || (x8 != (2 : Int))) rfl rfl rfl hb47) rfl (q_indexAddr (s := r4.1) (i := (1 : Int)) rfl Try.underlying113 ok91 rfl rfl ha48) ?_
      refine ro_val (d := (some 38)) rfl (.by_ 21 false 35 ((((r4.2.2 != (0 : Int)) || (decide ((r4.1.len : Int) < (2 : Int)))) || (x6 != (1 : Int))) || (x8 != (2 : Int))) rfl rfl rfl hb47) rfl (q_fieldAddr (a := a48) (off := 2) rfl Try.underlying91 rfl rfl ok2 (by decide) rfl) ?_
      obtain ⟨x49, hx49, h⟩ := h
      refine ro_val (d := (some 39)) rfl (.by_ 21 false 35 ((((r4.2.2 != (0 : Int)) || (decide ((r4.1.len : Int) < (2 : Int)))) || (x6 != (1 : Int))) || (x8 != (2 : Int))) rfl rfl rfl hb47) rfl (q_load (T := (tInt .i64)) (u := x49) (a := (a48.add 2)) rfl ok2 rfl hx49) ?_
      refine ro_wp rfl (.by_ 21 false 35 ((((r4.2.2 != (0 : Int)) || (decide ((r4.1.len : Int) < (2 : Int)))) || (x6 != (1 : Int))) || (x8 != (2 : Int))) rfl rfl rfl hb47) (wp_cl (d := (some 40)) rfl (q_call (k := 39) (l := [.int .i64 (x49)]) rfl ent39 rfl) h ?_)
      intro r51 w50 h
      refine ro_val (d := (some 41)) rfl (.by_ 21 false 35 ((((r4.2.2 != (0 : Int)) || (decide ((r4.1.len : Int) < (2 : Int)))) || (x6 != (1 : Int))) || (x8 != (2 : Int))) rfl rfl rfl hb47) rfl (q_not (b := r51) rfl rfl) ?_
      refine rv 42 rfl rfl rfl (q_pickF (v := .bool ((!r51))) (b := ((((r4.2.2 != (0 : Int)) || (decide ((r4.1.len : Int) < (2 : Int)))) || (x6 != (1 : Int))) || (x8 != (2 : Int)))) rfl rfl hb47 rfl) ?_
      refine ro_nil ?_
      exact ⟨((!r51)), _, arr (upd_step (upd_step (upd_step rfl rfl) rfl) rfl), h⟩

-- (*moiety/ballot.Acceptor).why
def F26 (a_1 : (Option Addr)) (b_2 : Int) (w : World) (R : Int → World → Prop) : Prop :=
  cl Try.prog 39 [.int .i64 (b_2)] tBool w fun r4 w3 =>
  if (!r4) = true then (
    R (231 : Int) w3
  ) else (
    ex (NC a_1) fun a5 =>
    ex (RdAt (tInt .i64) (a5.add 1) w3) fun x6 =>
    if (decide (b_2 < x6)) = true then (
      R (234 : Int) w3
    ) else (
      R (0 : Int) w3
    )
  )
theorem F26_ok {a_1 : (Option Addr)} {b_2 : Int} {w : World} {R : Int → World → Prop} (h : F26 a_1 b_2 w R) : cl Try.prog 26 [.pointer (a_1), .int .i64 (b_2)] (tInt .i64) w R := by
  unfold F26 at h
  refine calls_start 16 Try.func26 rfl rfl (Nat.le_of_ble_eq_true rfl) ?_
  refine wp_seq ?_
  refine wp_text [0] rfl ?_
  refine rv 4 rfl rfl rfl (q_assign (v := .int .i64 ((0 : Int))) rfl rfl) ?_
  refine ro_nil ?_
  refine wp_seq ?_
  refine wp_block ?_
  refine wp_seq ?_
  refine wp_text [0, 1, 2, 3] rfl ?_
  refine rv 6 rfl rfl rfl (q_move (v := .int .i64 (b_2)) rfl rfl) ?_
  refine ro_wp rfl (.free rfl) (wp_cl (d := (some 7)) rfl (q_call (k := 39) (l := [.int .i64 (b_2)]) rfl ent39 rfl) h ?_)
  intro r4 w3 h
  refine rv 8 rfl rfl rfl (q_not (b := r4) rfl rfl) ?_
  refine rv 5 rfl rfl rfl (q_assign (v := .bool ((!r4))) rfl rfl) ?_
  refine ro_nil ?_
  refine wp_if (b := (!r4)) rfl h (fun hb8 h => ?_) (fun hb8 h => ?_)
  · refine wp_seq ?_
    refine wp_text [0] rfl ?_
    refine rv 4 rfl rfl rfl (q_assign (v := .int .i64 ((231 : Int))) rfl rfl) ?_
    refine ro_nil ?_
    refine wp_ret ?_
    exact ret_ok rfl (.cons (.tmp (v := .int .i64 ((231 : Int))) rfl) .nil) ⟨(231 : Int), rfl, h⟩
  · refine wp_seq ?_
    refine wp_text [0, 1, 2, 3, 4, 5, 6] rfl ?_
    refine rv 10 rfl rfl rfl (q_move (v := .int .i64 (b_2)) rfl rfl) ?_
    refine rv 11 rfl rfl rfl (q_move (v := .pointer (a_1)) rfl rfl) ?_
    obtain ⟨a5, ha5, h⟩ := h
    refine rv 12 rfl rfl rfl (q_nilCheck (a := a5) rfl (congrArg Value.pointer ha5)) ?_
    refine rv 13 rfl rfl rfl (q_fieldAddr (a := a5) (off := 1) rfl Try.underlying53 rfl rfl ok2 (by decide) rfl) ?_
    obtain ⟨x6, hx6, h⟩ := h
    refine rv 14 rfl rfl rfl (q_load (T := (tInt .i64)) (u := x6) (a := (a5.add 1)) rfl ok2 rfl hx6) ?_
    refine rv 15 rfl rfl rfl (q_lss (a := b_2) (b := x6) rfl rfl rfl) ?_
    refine rv 9 rfl rfl rfl (q_assign (v := .bool ((decide (b_2 < x6)))) rfl rfl) ?_
    refine ro_nil ?_
    refine wp_if (b := (decide (b_2 < x6))) rfl h (fun hb7 h => ?_) (fun hb7 h => ?_)
    · refine wp_seq ?_
      refine wp_text [0] rfl ?_
      refine rv 4 rfl rfl rfl (q_assign (v := .int .i64 ((234 : Int))) rfl rfl) ?_
      refine ro_nil ?_
      refine wp_ret ?_
      exact ret_ok rfl (.cons (.tmp (v := .int .i64 ((234 : Int))) rfl) .nil) ⟨(234 : Int), rfl, h⟩
    · refine wp_skip ?_
      refine wp_seq ?_
      refine wp_text [0] rfl ?_
      refine rv 4 rfl rfl rfl (q_assign (v := .int .i64 ((0 : Int))) rfl rfl) ?_
      refine ro_nil ?_
      refine wp_ret ?_
      exact ret_ok rfl (.cons (.tmp (v := .int .i64 ((0 : Int))) rfl) .nil) ⟨(0 : Int), rfl, h⟩

end Go.Proofs.Ytjkmeooncmhonaa.Cf
