/- Characteristic formulae of Go functions, and that they are. Printed by gen.py (own tool). -/
import Derived.Test.YtojcgejjdfcaaaaTy
namespace Go.Proofs.Ytojcgejjdfcaaaa.Cf
open Go
set_option maxRecDepth 100000
set_option maxHeartbeats 1000000
set_option linter.unusedVariables false
set_option linter.unusedSimpArgs false

-- moiety/moietyref13.Of
def F34_j2 (i_6 : Int) (out_9 : Slc) (w10 : World) (K8 : Slc × Int → World → Prop) (R : Slc → World → Prop) : Prop :=
  K8 (out_9, (IntKind.i64.wrap (i_6 + (1 : Int)))) w10
def F34_l1 (l_1 : Slc) (key_2 : Int) (out_5 : Slc) (i_6 : Int) (w7 : World) (K8 : Slc × Int → World → Prop) (R : Slc → World → Prop) : Prop :=
  if (decide (i_6 < (l_1.len : Int))) = true then (
    ex (IxA l_1 3 i_6) fun a11 =>
    ex (RdAt (tInt .i64) (a11.add 1) w7) fun x12 =>
    if (x12 == key_2) = true then (
      dr w7 fun w13 =>
      ex (IxA l_1 3 i_6) fun a14 =>
      ex (IxA l_1 3 i_6) fun a15 =>
      ex (RdAt (tInt .i64) (a14.add 0) w13) fun x16 =>
      ex (RdAt tBool (a15.add 2) w13) fun x17 =>
      apl 54 T53 2 16 out_5 [(⟨x16, x17⟩ : S53)] w13 fun r21 w20 =>
      kp ((RdAt (tInt .i64) (a14.add 0) w20) x16) <|
      kp ((RdAt tBool (a15.add 2) w20) x17) <|
      F34_j2 i_6 r21 w20 K8 R
    ) else (
      F34_j2 i_6 out_5 w7 K8 R
    )
  ) else (
    R out_5 w7
  )
def F34 (l_1 : Slc) (key_2 : Int) (w : World) (R : Slc → World → Prop) : Prop :=
  nwS 54 T53 ([] : List S53) w fun a3 w4 =>
  lp (fun (s : Slc × Int) w K => F34_l1 l_1 key_2 s.1 s.2 w K R) ((⟨some a3, 0, 0⟩ : Slc), (0 : Int)) w4
theorem F34_ok {l_1 : Slc} {key_2 : Int} {w : World} {R : Slc → World → Prop} (h : F34 l_1 key_2 w R) : cl Try.prog 34 [tSlc.enc (l_1), .int .i64 (key_2)] tSlc w R := by
  unfold F34 at h
  refine calls_start 36 Try.func34 rfl rfl (Nat.le_of_ble_eq_true rfl) ?_
  refine wp_seq ?_
  refine wp_text [0] rfl ?_
  refine ro_val (d := (some 4)) rfl (.free rfl) rfl (q_assign (v := tSlc.enc ((⟨none, 0, 0⟩ : Slc))) rfl rfl) ?_
  refine ro_nil ?_
  refine wp_seq ?_
  refine wp_text [0, 1] rfl ?_
  obtain ⟨a3, w4, ha3, hw4, h⟩ := nwS_open h
  refine ro_val (d := (some 7)) rfl (.free rfl) rfl (q_row0 (T := T53) rfl Try.underlying51 ok54 inf54 ha3 hw4) ?_
  refine ro_val (d := (some 5)) rfl (.free rfl) rfl (q_assign (v := tSlc.enc ((⟨some a3, 0, 0⟩ : Slc))) rfl rfl) ?_
  refine ro_nil ?_
  refine wp_seq ?_
  refine wp_seq ?_
  refine wp_text [0] rfl ?_
  refine ro_val (d := (some 6)) rfl (.free rfl) rfl (q_assign (v := .int .i64 ((0 : Int))) rfl rfl) ?_
  refine ro_nil ?_
  refine wp_block ?_
  refine loop_at (σ := Slc × Int) (fr := fun g (s : Slc × Int) => upd (upd (upd (upd (g) 0 (tSlc.enc (l_1))) 1 (.int .i64 (key_2))) 5 (tSlc.enc (s.1))) 6 (.int .i64 (s.2))) (s0 := ((⟨some a3, 0, 0⟩ : Slc), (0 : Int))) (upd_step (upd_step (upd_step (upd_step rfl rfl) rfl) rfl) rfl) h ?_
  rintro ⟨out_5, i_6⟩ g w7 K8 h
  unfold F34_l1 at h
  refine wp_seq ?_
  refine wp_seq ?_
  refine wp_text [0, 1, 2, 3] rfl ?_
  refine ro_val (d := (some 8)) rfl (.free rfl) rfl (q_move (v := .int .i64 (i_6)) rfl rfl) ?_
  refine ro_val (d := (some 9)) rfl (.free rfl) rfl (q_move (v := tSlc.enc (l_1)) rfl rfl) ?_
  refine ro_val (d := (some 10)) rfl (.free rfl) rfl (q_len (s := l_1) rfl Try.underlying25 rfl) ?_
  refine ro_val (d := (some 11)) rfl (.free rfl) rfl (q_lss (a := i_6) (b := (l_1.len : Int)) rfl rfl rfl) ?_
  refine ro_nil ?_
  refine wp_if (b := (decide (i_6 < (l_1.len : Int)))) rfl h (fun hb25 h => ?_) (fun hb25 h => ?_)
  · refine wp_skip ?_
    refine seq_join (σ := Slc) (J := fun (s : Slc) w => F34_j2 i_6 s w K8 R) (fr := fun g (s : Slc) => upd (upd (upd (upd (g) 0 (tSlc.enc (l_1))) 1 (.int .i64 (key_2))) 6 (.int .i64 (i_6))) 5 (tSlc.enc (s))) ?_ ?_
    · rintro out_9 g w10 h
      unfold F34_j2 at h
      refine wp_text [0, 1, 2] rfl ?_
      refine ro_val (d := (some 12)) rfl (.free rfl) rfl (q_move (v := .int .i64 (i_6)) rfl rfl) ?_
      refine ro_val (d := (some 13)) rfl (.free rfl) rfl (q_add (a := i_6) (b := (1 : Int)) rfl rfl rfl) ?_
      refine ro_val (d := (some 6)) rfl (.free rfl) rfl (q_assign (v := .int .i64 ((IntKind.i64.wrap (i_6 + (1 : Int))))) rfl rfl) ?_
      refine ro_nil ?_
      exact ⟨(out_9, (IntKind.i64.wrap (i_6 + (1 : Int)))), _, arr (upd_step (upd_step (upd_step (upd_step rfl rfl) rfl) rfl) rfl), h⟩
    · refine wp_block ?_
      refine wp_seq ?_
      refine wp_text [0, 1, 2, 3, 4, 5, 6] rfl ?_
      refine ro_val (d := (some 14)) rfl (.free rfl) rfl (q_move (v := tSlc.enc (l_1)) rfl rfl) ?_
      refine ro_val (d := (some 15)) rfl (.free rfl) rfl (q_move (v := .int .i64 (i_6)) rfl rfl) ?_
      obtain ⟨a11, ha11, h⟩ := h
      refine ro_val (d := (some 16)) rfl (.free rfl) rfl (q_indexAddr (s := l_1) (i := i_6) rfl Try.underlying25 ok80 rfl rfl ha11) ?_
      refine ro_val (d := (some 17)) rfl (.free rfl) rfl (q_fieldAddr (a := a11) (off := 1) rfl Try.underlying80 rfl rfl ok3 (by decide) rfl) ?_
      obtain ⟨x12, hx12, h⟩ := h
      refine ro_val (d := (some 18)) rfl (.free rfl) rfl (q_load (T := (tInt .i64)) (u := x12) (a := (a11.add 1)) rfl ok3 rfl hx12) ?_
      refine ro_val (d := (some 19)) rfl (.free rfl) rfl (q_move (v := .int .i64 (key_2)) rfl rfl) ?_
      refine ro_val (d := (some 20)) rfl (.free rfl) rfl (q_eql (a := x12) (b := key_2) rfl rfl rfl) ?_
      refine ro_nil ?_
      refine wp_if (b := (x12 == key_2)) rfl h (fun hb24 h => ?_) (fun hb24 h => ?_)
      · obtain ⟨w13, hw13, h⟩ := dr_open h
        refine wp_drawn 15 mixed rfl (by kernel_rfl) (by intro c a d v w h; cases d <;> exact h) hw13 (fun hD => ?_)
        refine rd_pure (i := 0) (d := (some 21)) hD (by kernel_rfl) (by kernel_rfl) rfl (.free rfl) rfl (fun _ => q_move (v := tSlc.enc (out_5)) rfl rfl) ?_
        refine rd_pure (i := 1) (d := (some 22)) hD (by kernel_rfl) (by kernel_rfl) rfl (.free rfl) rfl (fun _ => q_move (v := tSlc.enc (l_1)) rfl rfl) ?_
        refine rd_pure (i := 2) (d := (some 23)) hD (by kernel_rfl) (by kernel_rfl) rfl (.free rfl) rfl (fun _ => q_move (v := .int .i64 (i_6)) rfl rfl) ?_
        obtain ⟨a14, ha14, h⟩ := h
        refine rd_pure (i := 3) (d := (some 24)) hD (by kernel_rfl) (by kernel_rfl) rfl (.free rfl) rfl (fun _ => q_indexAddr (s := l_1) (i := i_6) rfl Try.underlying25 ok80 rfl rfl ha14) ?_
        refine rd_pure (i := 4) (d := (some 25)) hD (by kernel_rfl) (by kernel_rfl) rfl (.free rfl) rfl (fun _ => q_fieldAddr (a := a14) (off := 0) rfl Try.underlying80 rfl rfl ok3 (by decide) rfl) ?_
        refine rd_pure (i := 6) (d := (some 27)) hD (by kernel_rfl) (by kernel_rfl) rfl (.free rfl) rfl (fun _ => q_move (v := tSlc.enc (l_1)) rfl rfl) ?_
        refine rd_pure (i := 7) (d := (some 28)) hD (by kernel_rfl) (by kernel_rfl) rfl (.free rfl) rfl (fun _ => q_move (v := .int .i64 (i_6)) rfl rfl) ?_
        obtain ⟨a15, ha15, h⟩ := h
        refine rd_pure (i := 8) (d := (some 29)) hD (by kernel_rfl) (by kernel_rfl) rfl (.free rfl) rfl (fun _ => q_indexAddr (s := l_1) (i := i_6) rfl Try.underlying25 ok80 rfl rfl ha15) ?_
        refine rd_pure (i := 9) (d := (some 30)) hD (by kernel_rfl) (by kernel_rfl) rfl (.free rfl) rfl (fun _ => q_fieldAddr (a := a15) (off := 2) rfl Try.underlying80 rfl rfl ok4 (by decide) rfl) ?_
        obtain ⟨x16, hx16, h⟩ := h
        refine rd_read (i := 5) (d := (some 26)) (fun W => (RdAt (tInt .i64) (a14.add 0) W) x16) hD (by kernel_rfl) (by kernel_rfl) rfl (.free rfl) rfl (fun W hr => q_load (T := (tInt .i64)) (u := x16) (a := (a14.add 0)) rfl ok3 rfl hr) hx16 ?_
        obtain ⟨x17, hx17, h⟩ := h
        refine rd_read (i := 10) (d := (some 31)) (fun W => (RdAt tBool (a15.add 2) W) x17) hD (by kernel_rfl) (by kernel_rfl) rfl (.free rfl) rfl (fun W hr => q_load (T := tBool) (u := x17) (a := (a15.add 2)) rfl ok4 rfl hr) hx17 ?_
        refine rd_pure (i := 11) (d := (some 32)) hD (by kernel_rfl) (by kernel_rfl) rfl (.free rfl) rfl (fun _ => q_build54_0_1 (v0 := x16) (v1 := x17) rfl rfl rfl) ?_
        refine rd_one (i := 12) (by kernel_rfl) ?_
        obtain ⟨a18, w19, ha18, hw19, h⟩ := apl_open h
        refine po_val (d := (some 33)) rfl (.free rfl) rfl (q_rowOf (T := T53) (xs := [(⟨x16, x17⟩ : S53)]) rfl Try.underlying51 ok54 inf54 rfl (by decide) (by decide) rfl ha18 hw19) ⟨(hk_keep (fun h => keep_RdAt hw19 h) (hk_keep (fun h => keep_RdAt hw19 h) hk_nil)), ?_⟩
        refine rd_one (i := 13) (by kernel_rfl) ?_
        refine po_wp rfl (.free rfl) (wp_append (d := (some 34)) (T := T53) rfl rfl Try.underlying51 ⟨_, Try.underlying51⟩ ok54 inf54 rfl rfl (Nat.lt_of_lt_of_le Nat.zero_lt_one (Nat.le_of_ble_eq_true rfl)) rfl rfl h ?_)
        intro r21 w20 h
        obtain ⟨hk22, h⟩ := h
        obtain ⟨hk23, h⟩ := h
        refine ⟨(hk_keep (fun _ => hk23) (hk_keep (fun _ => hk22) hk_nil)), ?_⟩
        refine rd_pure (i := 14) (d := (some 5)) hD (by kernel_rfl) (by kernel_rfl) rfl (.free rfl) rfl (fun _ => q_assign (v := tSlc.enc (r21)) rfl rfl) ?_
        refine rd_nil (by kernel_rfl) ?_
        exact ⟨(r21), _, arr (upd_step (upd_step (upd_step (upd_step rfl rfl) rfl) rfl) rfl), h⟩
      · refine wp_skip ?_
        exact ⟨(out_5), _, arr (upd_step (upd_step (upd_step (upd_step rfl rfl) rfl) rfl) rfl), h⟩
  · refine wp_exit ?_
    refine wp_seq ?_
    refine wp_text [0, 1] rfl ?_
    refine ro_val (d := (some 35)) rfl (.free rfl) rfl (q_move (v := tSlc.enc (out_5)) rfl rfl) ?_
    refine ro_val (d := (some 4)) rfl (.free rfl) rfl (q_assign (v := tSlc.enc (out_5)) rfl rfl) ?_
    refine ro_nil ?_
    refine wp_ret ?_
    exact ret_ok rfl (.cons (.tmp (v := tSlc.enc (out_5)) rfl) .nil) ⟨out_5, rfl, h⟩

-- moiety/locks.list
def F35_l1 (l_1 : (Option Nat)) (r5 : Slc) (out_6 : Slc) (t_7 : Int) (w8 : World) (K9 : Slc × Int → World → Prop) (R : Slc → World → Prop) : Prop :=
  if (decide (t_7 < (r5.len : Int))) = true then (
    ex (IxA r5 1 t_7) fun a10 =>
    ex (RdAt (tInt .i64) a10 w8) fun x11 =>
    ex (MapGet tBool .i64 l_1 x11 w8) fun m12 =>
    apl 54 T53 2 16 out_6 [(⟨x11, (m12.getD false)⟩ : S53)] w8 fun r16 w15 =>
    K9 (r16, (IntKind.i64.wrap (t_7 + (1 : Int)))) w15
  ) else (
    R out_6 w8
  )
def F35 (l_1 : (Option Nat)) (w : World) (R : Slc → World → Prop) : Prop :=
  cl Try.prog 27 [.map (l_1)] tFun w fun r3 w2 =>
  cl Try.prog 26 [(r3).enc] tSlc w2 fun r5 w4 =>
  lp (fun (s : Slc × Int) w K => F35_l1 l_1 r5 s.1 s.2 w K R) ((⟨none, 0, 0⟩ : Slc), (0 : Int)) w4
theorem F35_ok {l_1 : (Option Nat)} {w : World} {R : Slc → World → Prop} (h : F35 l_1 w R) : cl Try.prog 35 [.map (l_1)] tSlc w R := by
  unfold F35 at h
  refine calls_start 24 Try.func35 rfl rfl (Nat.le_of_ble_eq_true rfl) ?_
  refine wp_seq ?_
  refine wp_text [0] rfl ?_
  refine ro_val (d := (some 2)) rfl (.free rfl) rfl (q_assign (v := tSlc.enc ((⟨none, 0, 0⟩ : Slc))) rfl rfl) ?_
  refine ro_nil ?_
  refine wp_seq ?_
  refine wp_text [0] rfl ?_
  refine ro_val (d := (some 3)) rfl (.free rfl) rfl (q_assign (v := tSlc.enc ((⟨none, 0, 0⟩ : Slc))) rfl rfl) ?_
  refine ro_nil ?_
  refine wp_seq ?_
  refine wp_seq ?_
  refine wp_text [0, 1, 2, 3, 4] rfl ?_
  refine ro_val (d := (some 6)) rfl (.free rfl) rfl (q_move (v := .map (l_1)) rfl rfl) ?_
  refine ro_wp rfl (.free rfl) (wp_cl (d := (some 7)) rfl (q_call (k := 27) (l := [.map (l_1)]) rfl ent27 rfl) h ?_)
  intro r3 w2 h
  refine ro_wp rfl (.free rfl) (wp_cl (d := (some 8)) rfl (q_call (k := 26) (l := [(r3).enc]) rfl ent26 rfl) h ?_)
  intro r5 w4 h
  refine ro_val (d := (some 9)) rfl (.free rfl) rfl (q_len (s := r5) rfl Try.underlying26 rfl) ?_
  refine ro_val (d := (some 10)) rfl (.free rfl) rfl (q_move (v := .int .i64 ((0 : Int))) rfl rfl) ?_
  refine ro_nil ?_
  refine wp_block ?_
  refine loop_at (σ := Slc × Int) (fr := fun g (s : Slc × Int) => upd (upd (upd (upd (upd (g) 0 (.map (l_1))) 8 (tSlc.enc (r5))) 9 (.int .i64 ((r5.len : Int)))) 3 (tSlc.enc (s.1))) 10 (.int .i64 (s.2))) (s0 := ((⟨none, 0, 0⟩ : Slc), (0 : Int))) (upd_step (upd_step (upd_step (upd_step (upd_step rfl rfl) rfl) rfl) rfl) rfl) h ?_
  rintro ⟨out_6, t_7⟩ g w8 K9 h
  unfold F35_l1 at h
  refine wp_seq ?_
  refine wp_text [0] rfl ?_
  refine ro_val (d := (some 11)) rfl (.free rfl) rfl (q_lss (a := t_7) (b := (r5.len : Int)) rfl rfl rfl) ?_
  refine ro_nil ?_
  refine wp_seq ?_
  refine wp_if (b := (decide (t_7 < (r5.len : Int)))) rfl h (fun hb17 h => ?_) (fun hb17 h => ?_)
  · refine wp_skip ?_
    refine wp_seq ?_
    refine wp_block ?_
    refine wp_seq ?_
    refine wp_text [0, 1, 2] rfl ?_
    obtain ⟨a10, ha10, h⟩ := h
    refine ro_val (d := (some 12)) rfl (.free rfl) rfl (q_indexAddr (s := r5) (i := t_7) rfl Try.underlying26 ok3 rfl rfl ha10) ?_
    obtain ⟨x11, hx11, h⟩ := h
    refine ro_val (d := (some 13)) rfl (.free rfl) rfl (q_load (T := (tInt .i64)) (u := x11) (a := a10) rfl ok3 rfl hx11) ?_
    refine ro_val (d := (some 5)) rfl (.free rfl) rfl (q_assign (v := .int .i64 (x11)) rfl rfl) ?_
    refine ro_nil ?_
    refine wp_text [0, 1, 2, 3, 4, 5, 6, 7, 8] rfl ?_
    refine ro_val (d := (some 14)) rfl (.free rfl) rfl (q_move (v := tSlc.enc (out_6)) rfl rfl) ?_
    refine ro_val (d := (some 15)) rfl (.free rfl) rfl (q_move (v := .int .i64 (x11)) rfl rfl) ?_
    refine ro_val (d := (some 16)) rfl (.free rfl) rfl (q_move (v := .map (l_1)) rfl rfl) ?_
    refine ro_val (d := (some 17)) rfl (.free rfl) rfl (q_move (v := .int .i64 (x11)) rfl rfl) ?_
    obtain ⟨m12, hm12, h⟩ := h
    refine ro_val (d := (some 18)) rfl (.free rfl) rfl (q_lookup (T := tBool) (r := l_1) (key := x11) (u := m12) (z := false) rfl Try.underlying66 Try.underlying3 (inf4) rfl rfl hm12) ?_
    refine ro_val (d := (some 19)) rfl (.free rfl) rfl (q_build54_0_1 (v0 := x11) (v1 := (m12.getD false)) rfl rfl rfl) ?_
    obtain ⟨a13, w14, ha13, hw14, h⟩ := apl_open h
    refine ro_val (d := (some 20)) rfl (.free rfl) rfl (q_rowOf (T := T53) (xs := [(⟨x11, (m12.getD false)⟩ : S53)]) rfl Try.underlying51 ok54 inf54 rfl (by decide) (by decide) rfl ha13 hw14) ?_
    refine ro_wp rfl (.free rfl) (wp_append (d := (some 21)) (T := T53) rfl rfl Try.underlying51 ⟨_, Try.underlying51⟩ ok54 inf54 rfl rfl (Nat.lt_of_lt_of_le Nat.zero_lt_one (Nat.le_of_ble_eq_true rfl)) rfl rfl h ?_)
    intro r16 w15 h
    refine ro_val (d := (some 3)) rfl (.free rfl) rfl (q_assign (v := tSlc.enc (r16)) rfl rfl) ?_
    refine ro_nil ?_
    refine wp_text [0, 1] rfl ?_
    refine ro_val (d := (some 22)) rfl (.free rfl) rfl (q_add (a := t_7) (b := (1 : Int)) rfl rfl rfl) ?_
    refine ro_val (d := (some 10)) rfl (.free rfl) rfl (q_move (v := .int .i64 ((IntKind.i64.wrap (t_7 + (1 : Int))))) rfl rfl) ?_
    refine ro_nil ?_
    exact ⟨(r16, (IntKind.i64.wrap (t_7 + (1 : Int)))), _, arr (upd_step (upd_step (upd_step (upd_step (upd_step rfl rfl) rfl) rfl) rfl) rfl), h⟩
  · refine wp_exit ?_
    refine wp_seq ?_
    refine wp_text [0, 1] rfl ?_
    refine ro_val (d := (some 23)) rfl (.free rfl) rfl (q_move (v := tSlc.enc (out_6)) rfl rfl) ?_
    refine ro_val (d := (some 2)) rfl (.free rfl) rfl (q_assign (v := tSlc.enc (out_6)) rfl rfl) ?_
    refine ro_nil ?_
    refine wp_ret ?_
    exact ret_ok rfl (.cons (.tmp (v := tSlc.enc (out_6)) rfl) .nil) ⟨out_6, rfl, h⟩

-- moiety/locks.against$1
def F36 (other_1 : Int) (writes_2 : Bool) (t_3 : Addr) (t_4 : Addr) (w : World) (R : Bool → World → Prop) : Prop :=
  ex (RdAt (tInt .i64) t_3 w) fun x5 =>
  ex (fun x => (other_1 != x5) = true → (RdAt tBool t_4 w) x) fun x6 =>
  R ((other_1 != x5) && (x6 || writes_2)) w
theorem F36_ok {other_1 : Int} {writes_2 : Bool} {t_3 : Addr} {t_4 : Addr} {w : World} {R : Bool → World → Prop} (h : F36 other_1 writes_2 t_3 t_4 w R) : cl Try.prog 36 [.int .i64 (other_1), .bool (writes_2), .pointer (some t_3), .pointer (some t_4)] tBool w R := by
  unfold F36 at h
  refine calls_start 16 Try.func36 rfl rfl (Nat.le_of_ble_eq_true rfl) ?_
  refine wp_seq ?_
  refine wp_text [0] rfl ?_
  refine ro_val (d := (some 6)) rfl (.free rfl) rfl (q_assign (v := .bool (false)) rfl rfl) ?_
  refine ro_nil ?_
  refine wp_seq ?_
  refine wp_text [0, 1, 2, 3, 4, 5, 6, 7, 8, 9] rfl ?_
  refine ro_val (d := (some 7)) rfl (.free rfl) rfl (q_move (v := .int .i64 (other_1)) rfl rfl) ?_
  obtain ⟨x5, hx5, h⟩ := h
  refine ro_val (d := (some 8)) rfl (.free rfl) rfl (q_load (T := (tInt .i64)) (u := x5) (a := t_3) rfl ok3 rfl hx5) ?_
  refine ro_val (d := (some 9)) rfl (.free rfl) rfl (q_neq (a := other_1) (b := x5) rfl rfl rfl) ?_
  refine ro_val (d := (some 10)) rfl (.free rfl) rfl (q_move (v := .bool ((other_1 != x5))) rfl rfl) ?_
  obtain ⟨x6, hx6, h⟩ := h
  refine ro_gval (g := (other_1 != x5)) (d := (some 11)) rfl (.yes 3 10 true (other_1 != x5) rfl rfl rfl rfl) rfl (fun hg => q_load (T := tBool) (u := x6) (a := t_4) rfl ok4 rfl (hx6 hg)) ?_
  refine ro_gval (g := (other_1 != x5)) (d := (some 12)) rfl (.yes 3 10 true (other_1 != x5) rfl rfl rfl rfl) rfl (fun hg => q_move (v := .bool (x6)) rfl (gvb_yes hg)) ?_
  refine ro_gval (g := ((other_1 != x5) && (!x6))) (d := (some 13)) rfl (.no 5 12 (other_1 != x5) x6 rfl rfl rfl rfl) rfl (fun hg => q_move (v := .bool (writes_2)) rfl rfl) ?_
  refine ro_gval (g := (other_1 != x5)) (d := (some 14)) rfl (.yes 3 10 true (other_1 != x5) rfl rfl rfl rfl) rfl (fun hg => q_pickNF (g0 := (other_1 != x5)) (a := x6) (c := writes_2) hg rfl rfl rfl rfl) ?_
  refine ro_val (d := (some 15)) rfl (.free rfl) rfl (q_pickGT (a := (other_1 != x5)) (b := (x6 || writes_2)) rfl rfl rfl rfl) ?_
  refine ro_val (d := (some 6)) rfl (.free rfl) rfl (q_assign (v := .bool (((other_1 != x5) && (x6 || writes_2)))) rfl rfl) ?_
  refine ro_nil ?_
  refine wp_ret ?_
  exact ret_ok rfl (.cons (.tmp (v := .bool (((other_1 != x5) && (x6 || writes_2)))) rfl) .nil) ⟨((other_1 != x5) && (x6 || writes_2)), rfl, h⟩

-- maps.Keys[map[int]*moiety/locks.lock,int,*moiety/locks.lock]
def F40 (m_1 : (Option Nat)) (w : World) (R : Fv → World → Prop) : Prop :=
  nw 58 tMap m_1 w fun a2 w3 =>
  R (Fv.mk (.func 47) (List.toArray []) (List.toArray [.pointer (some a2)])) w3
theorem F40_ok {m_1 : (Option Nat)} {w : World} {R : Fv → World → Prop} (h : F40 m_1 w R) : cl Try.prog 40 [.map (m_1)] tFun w R := by
  unfold F40 at h
  refine calls_start 4 Try.func40 rfl rfl (Nat.le_of_ble_eq_true rfl) ?_
  refine wp_seq ?_
  refine wp_text [0, 1] rfl ?_
  obtain ⟨a2, w3, ha2, hw3, h⟩ := nw_open h
  refine ro_val (d := (some 1)) rfl (.free rfl) rfl (q_box (u := m_1) rfl ok58 rfl ha2 hw3) ?_
  refine ro_val (d := (some 2)) rfl (.free rfl) rfl (q_assign (v := (Fv.nil).enc) rfl rfl) ?_
  refine ro_nil ?_
  refine wp_seq ?_
  refine wp_text [0, 1] rfl ?_
  refine ro_val (d := (some 3)) rfl (.free rfl) rfl (q_makeFunc (fn := .func 47) (va := []) (vc := [.pointer (some a2)]) rfl rfl rfl) ?_
  refine ro_val (d := (some 2)) rfl (.free rfl) rfl (q_assign (v := ((Fv.mk (.func 47) (List.toArray []) (List.toArray [.pointer (some a2)]))).enc) rfl rfl) ?_
  refine ro_nil ?_
  refine wp_ret ?_
  exact ret_ok rfl (.cons (.tmp (v := ((Fv.mk (.func 47) (List.toArray []) (List.toArray [.pointer (some a2)]))).enc) rfl) .nil) ⟨(Fv.mk (.func 47) (List.toArray []) (List.toArray [.pointer (some a2)])), rfl, h⟩

-- (*moiety/locks.Table).give$1
def F41_j1 (t_6 : Bool) (w7 : World) (R : Bool → World → Prop) : Prop :=
  R t_6 w7
def F41 (other_1 : Int) (writes_2 : Bool) (t_3 : Addr) (t_4 : Addr) (w : World) (R : Bool → World → Prop) : Prop :=
  ex (RdAt (tInt .i64) t_3 w) fun x5 =>
  if (decide (other_1 < x5)) = true then (
    ex (RdAt tFun t_4 w) fun x9 =>
    clv Try.prog x9 [.int .i64 (other_1), .bool (writes_2)] tBool w fun r11 w10 =>
    F41_j1 r11 w10 R
  ) else (
    F41_j1 false w R
  )
theorem F41_ok {other_1 : Int} {writes_2 : Bool} {t_3 : Addr} {t_4 : Addr} {w : World} {R : Bool → World → Prop} (h : F41 other_1 writes_2 t_3 t_4 w R) : cl Try.prog 41 [.int .i64 (other_1), .bool (writes_2), .pointer (some t_3), .pointer (some t_4)] tBool w R := by
  unfold F41 at h
  refine calls_start 16 Try.func41 rfl rfl (Nat.le_of_ble_eq_true rfl) ?_
  refine wp_seq ?_
  refine wp_text [0] rfl ?_
  refine ro_val (d := (some 6)) rfl (.free rfl) rfl (q_assign (v := .bool (false)) rfl rfl) ?_
  refine ro_nil ?_
  refine wp_seq ?_
  refine wp_text [0, 1, 2, 3, 4, 5, 6, 7, 8, 9] rfl ?_
  refine ro_val (d := (some 7)) rfl (.free rfl) rfl (q_move (v := .int .i64 (other_1)) rfl rfl) ?_
  obtain ⟨x5, hx5, h⟩ := h
  refine ro_val (d := (some 8)) rfl (.free rfl) rfl (q_load (T := (tInt .i64)) (u := x5) (a := t_3) rfl ok3 rfl hx5) ?_
  refine ro_val (d := (some 9)) rfl (.free rfl) rfl (q_lss (a := other_1) (b := x5) rfl rfl rfl) ?_
  refine ro_val (d := (some 10)) rfl (.free rfl) rfl (q_move (v := .bool ((decide (other_1 < x5)))) rfl rfl) ?_
  refine ro_join (σ := Bool) (J := fun (s : Bool) w => F41_j1 s w R) (fr := fun g (s : Bool) => upd (g) 15 (.bool (s))) [4, 5, 6, 7, 8] [9] ?_ ?_
  · rintro t_6 g w7 h
    unfold F41_j1 at h
    refine ro_val (d := (some 6)) rfl (.free rfl) rfl (q_assign (v := .bool (t_6)) rfl rfl) ?_
    refine ro_nil ?_
    refine wp_ret ?_
    exact ret_ok rfl (.cons (.tmp (v := .bool (t_6)) rfl) .nil) ⟨t_6, rfl, h⟩
  · refine ro_if (b := (decide (other_1 < x5))) h (fun hb8 h => ?_) (fun hb8 h => ?_)
    · obtain ⟨x9, hx9, h⟩ := h
      refine ro_val (d := (some 11)) rfl (.by_ 3 true 10 (decide (other_1 < x5)) rfl rfl rfl hb8) rfl (q_load (T := tFun) (u := x9) (a := t_4) rfl ok70 rfl hx9) ?_
      refine ro_val (d := (some 12)) rfl (.by_ 3 true 10 (decide (other_1 < x5)) rfl rfl rfl hb8) rfl (q_move (v := .int .i64 (other_1)) rfl rfl) ?_
      refine ro_val (d := (some 13)) rfl (.by_ 3 true 10 (decide (other_1 < x5)) rfl rfl rfl hb8) rfl (q_move (v := .bool (writes_2)) rfl rfl) ?_
      refine ro_wp rfl (.by_ 3 true 10 (decide (other_1 < x5)) rfl rfl rfl hb8) (wp_clv (d := (some 14)) (l := [.int .i64 (other_1), .bool (writes_2)]) (fv := x9) rfl rfl rfl rfl h ?_)
      intro r11 w10 h
      refine ro_val (d := (some 15)) rfl (.free rfl) rfl (q_pickT (v := .bool (r11)) (b := (decide (other_1 < x5))) rfl rfl hb8 rfl) ?_
      refine ro_nil ?_
      exact ⟨(r11), _, arr (upd_step rfl rfl), h⟩
    · refine ro_bar (d := (some 11)) rfl (.by_ 3 true 10 (decide (other_1 < x5)) rfl rfl rfl hb8) rfl ?_
      refine ro_bar (d := (some 12)) rfl (.by_ 3 true 10 (decide (other_1 < x5)) rfl rfl rfl hb8) rfl ?_
      refine ro_bar (d := (some 13)) rfl (.by_ 3 true 10 (decide (other_1 < x5)) rfl rfl rfl hb8) rfl ?_
      refine ro_bar (d := (some 14)) rfl (.by_ 3 true 10 (decide (other_1 < x5)) rfl rfl rfl hb8) rfl ?_
      refine ro_val (d := (some 15)) rfl (.free rfl) rfl (q_pickF (v := .bool (false)) (b := (decide (other_1 < x5))) rfl rfl hb8 rfl) ?_
      refine ro_nil ?_
      exact ⟨(false), _, arr (upd_step rfl rfl), h⟩

-- moiety/locks.any
def F42_l1 (is_2 : Fv) (a4 : Addr) (w5 : World) (K6 : Unit → World → Prop) (R : Bool → World → Prop) : Prop :=
  nxt a4 w5 fun q8 w7 =>
  if (Option.isSome q8) = true then (
    ex (Ent tBool .i64 a4 w7) fun e9 =>
    clv Try.prog is_2 [.int .i64 (e9.1), .bool (e9.2)] tBool w7 fun r11 w10 =>
    if r11 = true then (
      R true w10
    ) else (
      K6 () w10
    )
  ) else (
    R false w7
  )
def F42 (l_1 : (Option Nat)) (is_2 : Fv) (w : World) (R : Bool → World → Prop) : Prop :=
  rng l_1 w fun a4 w3 =>
  lp (fun (s : Unit) w K => F42_l1 is_2 a4 w K R) () w3
theorem F42_ok {l_1 : (Option Nat)} {is_2 : Fv} {w : World} {R : Bool → World → Prop} (h : F42 l_1 is_2 w R) : cl Try.prog 42 [.map (l_1), (is_2).enc] tBool w R := by
  unfold F42 at h
  refine calls_start 18 Try.func42 rfl rfl (Nat.le_of_ble_eq_true rfl) ?_
  refine wp_seq ?_
  refine wp_text [0] rfl ?_
  refine ro_val (d := (some 4)) rfl (.free rfl) rfl (q_assign (v := .bool (false)) rfl rfl) ?_
  refine ro_nil ?_
  refine wp_seq ?_
  refine wp_seq ?_
  refine wp_text [0, 1] rfl ?_
  refine ro_val (d := (some 7)) rfl (.free rfl) rfl (q_move (v := .map (l_1)) rfl rfl) ?_
  refine ro_wp rfl (.free rfl) (wp_rng (r := l_1) (d := (some 8)) rfl rfl Try.underlying66 rfl h ?_)
  intro a4 w3 h
  refine ro_nil ?_
  refine wp_block ?_
  refine loop_at (σ := Unit) (fr := fun g (s : Unit) => upd (upd (g) 1 ((is_2).enc)) 8 (.pointer (some a4))) (s0 := ()) (upd_step (upd_step rfl rfl) rfl) h ?_
  rintro ⟨⟩ g w5 K6 h
  unfold F42_l1 at h
  refine wp_seq ?_
  refine wp_text [0, 1] rfl ?_
  refine ro_wp rfl (.free rfl) (wp_nxt (a := a4) (d := (some 9)) rfl rfl rfl h ?_)
  intro q8 w7 h
  refine ro_val (d := (some 10)) rfl (.free rfl) rfl (q_extractN (q := q8) rfl rfl) ?_
  refine ro_nil ?_
  refine wp_seq ?_
  refine wp_if (b := (Option.isSome q8)) rfl h (fun hb13 h => ?_) (fun hb13 h => ?_)
  · refine wp_skip ?_
    refine wp_block ?_
    refine wp_seq ?_
    refine wp_text [0, 1, 2, 3, 4] rfl ?_
    obtain ⟨e9, he9, h⟩ := h
    refine ro_val (d := (some 11)) rfl (.free rfl) rfl (q_entry (T := tBool) (p := e9) (a := a4) rfl rfl he9) ?_
    refine ro_val (d := (some 12)) rfl (.free rfl) rfl (q_extract (vs := #[.int .i64 (e9.1), .bool (e9.2)]) (v := .int .i64 (e9.1)) rfl rfl rfl) ?_
    refine ro_val (d := (some 13)) rfl (.free rfl) rfl (q_extract (vs := #[.int .i64 (e9.1), .bool (e9.2)]) (v := .bool (e9.2)) rfl rfl rfl) ?_
    refine ro_val (d := (some 5)) rfl (.free rfl) rfl (q_assign (v := .int .i64 (e9.1)) rfl rfl) ?_
    refine ro_val (d := (some 6)) rfl (.free rfl) rfl (q_assign (v := .bool (e9.2)) rfl rfl) ?_
    refine ro_nil ?_
    refine wp_seq ?_
    refine wp_text [0, 1, 2, 3] rfl ?_
    refine ro_val (d := (some 14)) rfl (.free rfl) rfl (q_move (v := (is_2).enc) rfl rfl) ?_
    refine ro_val (d := (some 15)) rfl (.free rfl) rfl (q_move (v := .int .i64 (e9.1)) rfl rfl) ?_
    refine ro_val (d := (some 16)) rfl (.free rfl) rfl (q_move (v := .bool (e9.2)) rfl rfl) ?_
    refine ro_wp rfl (.free rfl) (wp_clv (d := (some 17)) (l := [.int .i64 (e9.1), .bool (e9.2)]) (fv := is_2) rfl rfl rfl rfl h ?_)
    intro r11 w10 h
    refine ro_nil ?_
    refine wp_if (b := r11) rfl h (fun hb12 h => ?_) (fun hb12 h => ?_)
    · refine wp_seq ?_
      refine wp_text [0] rfl ?_
      refine ro_val (d := (some 4)) rfl (.free rfl) rfl (q_assign (v := .bool (true)) rfl rfl) ?_
      refine ro_nil ?_
      refine wp_ret ?_
      exact ret_ok rfl (.cons (.tmp (v := .bool (true)) rfl) .nil) ⟨true, rfl, h⟩
    · refine wp_skip ?_
      exact ⟨(), _, arr (upd_step (upd_step rfl rfl) rfl), h⟩
  · refine wp_exit ?_
    refine wp_seq ?_
    refine wp_text [0] rfl ?_
    refine ro_val (d := (some 4)) rfl (.free rfl) rfl (q_assign (v := .bool (false)) rfl rfl) ?_
    refine ro_nil ?_
    refine wp_ret ?_
    exact ret_ok rfl (.cons (.tmp (v := .bool (false)) rfl) .nil) ⟨false, rfl, h⟩

-- moiety/moietyref13.may
def F43_j2 (i_7 : Int) (t_11 : Bool) (w12 : World) (K9 : Int → World → Prop) (R : Bool → World → Prop) : Prop :=
  if t_11 = true then (
    R false w12
  ) else (
    K9 ((IntKind.i64.wrap (i_7 + (1 : Int)))) w12
  )
def F43_j4 (i_30 : Int) (t_34 : Bool) (w35 : World) (K32 : Int → World → Prop) (R : Bool → World → Prop) : Prop :=
  if t_34 = true then (
    R false w35
  ) else (
    K32 ((IntKind.i64.wrap (i_30 + (1 : Int)))) w35
  )
def F43_l3 (a3 : Addr) (a5 : Addr) (i_30 : Int) (w31 : World) (K32 : Int → World → Prop) (R : Bool → World → Prop) : Prop :=
  ex (RdAt tSlc (a3.add 1) w31) fun x33 =>
  if (decide (i_30 < (x33.len : Int))) = true then (
    dr w31 fun w37 =>
    ex (RdAt tSlc (a3.add 1) w37) fun x38 =>
    ex (IxA x38 3 i_30) fun a39 =>
    ex (RdAt (tInt .i64) (a39.add 1) w37) fun x40 =>
    ex (RdAt (tInt .i64) (a5.add 1) w37) fun x41 =>
    ex (fun x => (x40 == x41) = true → (RdAt tSlc (a3.add 1) w37) x) fun x42 =>
    ex (fun x => (x40 == x41) = true → (IxA x42 3 i_30) x) fun a43 =>
    ex (fun x => (x40 == x41) = true → (RdAt (tInt .i64) (a43.add 0) w37) x) fun x44 =>
    ex (fun x => (x40 == x41) = true → (RdAt (tInt .i64) (a5.add 0) w37) x) fun x45 =>
    if ((x40 == x41) && (decide (x44 < x45))) = true then (
      ex (RdAt tSlc (a3.add 1) w37) fun x47 =>
      ex (IxA x47 3 i_30) fun a48 =>
      ex (RdAt T79 a48 w37) fun x49 =>
      ex (RdAt T79 a5 w37) fun x50 =>
      cl Try.prog 30 [T79.enc (x49), T79.enc (x50)] tBool w37 fun r52 w51 =>
      kp ((RdAt tSlc (a3.add 1) w51) x38) <|
      kp ((RdAt (tInt .i64) (a39.add 1) w51) x40) <|
      kp ((RdAt (tInt .i64) (a5.add 1) w51) x41) <|
      kp ((fun x => (x40 == x41) = true → (RdAt tSlc (a3.add 1) w51) x) x42) <|
      kp ((fun x => (x40 == x41) = true → (RdAt (tInt .i64) (a43.add 0) w51) x) x44) <|
      kp ((fun x => (x40 == x41) = true → (RdAt (tInt .i64) (a5.add 0) w51) x) x45) <|
      kp ((RdAt tSlc (a3.add 1) w51) x47) <|
      F43_j4 i_30 (!r52) w51 K32 R
    ) else (
      F43_j4 i_30 false w37 K32 R
    )
  ) else (
    R true w31
  )
def F43_l1 (a3 : Addr) (a5 : Addr) (i_7 : Int) (w8 : World) (K9 : Int → World → Prop) (R : Bool → World → Prop) : Prop :=
  ex (RdAt tSlc (a3.add 0) w8) fun x10 =>
  if (decide (i_7 < (x10.len : Int))) = true then (
    dr w8 fun w14 =>
    ex (RdAt tSlc (a3.add 0) w14) fun x15 =>
    ex (IxA x15 3 i_7) fun a16 =>
    ex (RdAt (tInt .i64) (a16.add 1) w14) fun x17 =>
    ex (RdAt (tInt .i64) (a5.add 1) w14) fun x18 =>
    if (x17 == x18) = true then (
      ex (RdAt tSlc (a3.add 0) w14) fun x20 =>
      ex (IxA x20 3 i_7) fun a21 =>
      ex (RdAt T79 a21 w14) fun x22 =>
      ex (RdAt T79 a5 w14) fun x23 =>
      cl Try.prog 30 [T79.enc (x22), T79.enc (x23)] tBool w14 fun r25 w24 =>
      kp ((RdAt tSlc (a3.add 0) w24) x15) <|
      kp ((RdAt (tInt .i64) (a16.add 1) w24) x17) <|
      kp ((RdAt (tInt .i64) (a5.add 1) w24) x18) <|
      kp ((RdAt tSlc (a3.add 0) w24) x20) <|
      F43_j2 i_7 (!r25) w24 K9 R
    ) else (
      F43_j2 i_7 false w14 K9 R
    )
  ) else (
    lp (fun (s : Int) w K => F43_l3 a3 a5 s w K R) ((0 : Int)) w8
  )
def F43 (t_1 : S27) (x_2 : S79) (w : World) (R : Bool → World → Prop) : Prop :=
  nw 28 T27 t_1 w fun a3 w4 =>
  nw 80 T79 x_2 w4 fun a5 w6 =>
  lp (fun (s : Int) w K => F43_l1 a3 a5 s w K R) ((0 : Int)) w6
theorem F43_ok {t_1 : S27} {x_2 : S79} {w : World} {R : Bool → World → Prop} (h : F43 t_1 x_2 w R) : cl Try.prog 43 [T27.enc (t_1), T79.enc (x_2)] tBool w R := by
  unfold F43 at h
  refine calls_start 70 Try.func43 rfl rfl (Nat.le_of_ble_eq_true rfl) ?_
  refine wp_seq ?_
  refine wp_text [0, 1, 2] rfl ?_
  obtain ⟨a3, w4, ha3, hw4, h⟩ := nw_open h
  refine ro_val (d := (some 2)) rfl (.free rfl) rfl (q_box (u := t_1) rfl ok28 rfl ha3 hw4) ?_
  obtain ⟨a5, w6, ha5, hw6, h⟩ := nw_open h
  refine ro_val (d := (some 3)) rfl (.free rfl) rfl (q_box (u := x_2) rfl ok80 rfl ha5 hw6) ?_
  refine ro_val (d := (some 4)) rfl (.free rfl) rfl (q_assign (v := .bool (false)) rfl rfl) ?_
  refine ro_nil ?_
  refine wp_seq ?_
  refine wp_seq ?_
  refine wp_text [0] rfl ?_
  refine ro_val (d := (some 5)) rfl (.free rfl) rfl (q_assign (v := .int .i64 ((0 : Int))) rfl rfl) ?_
  refine ro_nil ?_
  refine wp_block ?_
  refine loop_at (σ := Int) (fr := fun g (s : Int) => upd (upd (upd (g) 2 (.pointer (some a3))) 3 (.pointer (some a5))) 5 (.int .i64 (s))) (s0 := ((0 : Int))) (upd_step (upd_step (upd_step rfl rfl) rfl) rfl) h ?_
  rintro i_7 g w8 K9 h
  unfold F43_l1 at h
  refine wp_seq ?_
  refine wp_seq ?_
  refine wp_text [0, 1, 2, 3, 4] rfl ?_
  refine ro_val (d := (some 7)) rfl (.free rfl) rfl (q_move (v := .int .i64 (i_7)) rfl rfl) ?_
  refine ro_val (d := (some 8)) rfl (.free rfl) rfl (q_fieldAddr (a := a3) (off := 0) rfl Try.underlying28 rfl rfl ok25 (by decide) rfl) ?_
  obtain ⟨x10, hx10, h⟩ := h
  refine ro_val (d := (some 9)) rfl (.free rfl) rfl (q_load (T := tSlc) (u := x10) (a := (a3.add 0)) rfl ok25 rfl hx10) ?_
  refine ro_val (d := (some 10)) rfl (.free rfl) rfl (q_len (s := x10) rfl Try.underlying25 rfl) ?_
  refine ro_val (d := (some 11)) rfl (.free rfl) rfl (q_lss (a := i_7) (b := (x10.len : Int)) rfl rfl rfl) ?_
  refine ro_nil ?_
  refine wp_if (b := (decide (i_7 < (x10.len : Int)))) rfl h (fun hb61 h => ?_) (fun hb61 h => ?_)
  · refine wp_skip ?_
    refine wp_seq ?_
    refine wp_block ?_
    refine seq_join (σ := Bool) (J := fun (s : Bool) w => F43_j2 i_7 s w K9 R) (fr := fun g (s : Bool) => upd (upd (upd (upd (g) 2 (.pointer (some a3))) 3 (.pointer (some a5))) 5 (.int .i64 (i_7))) 32 (.bool (s))) ?_ ?_
    · rintro t_11 g w12 h
      unfold F43_j2 at h
      refine wp_if (b := t_11) rfl h (fun hb13 h => ?_) (fun hb13 h => ?_)
      · refine wp_seq ?_
        refine wp_text [0] rfl ?_
        refine ro_val (d := (some 4)) rfl (.free rfl) rfl (q_assign (v := .bool (false)) rfl rfl) ?_
        refine ro_nil ?_
        refine wp_ret ?_
        exact ret_ok rfl (.cons (.tmp (v := .bool (false)) rfl) .nil) ⟨false, rfl, h⟩
      · refine wp_skip ?_
        refine wp_text [0, 1, 2] rfl ?_
        refine ro_val (d := (some 12)) rfl (.free rfl) rfl (q_move (v := .int .i64 (i_7)) rfl rfl) ?_
        refine ro_val (d := (some 13)) rfl (.free rfl) rfl (q_add (a := i_7) (b := (1 : Int)) rfl rfl rfl) ?_
        refine ro_val (d := (some 5)) rfl (.free rfl) rfl (q_assign (v := .int .i64 ((IntKind.i64.wrap (i_7 + (1 : Int))))) rfl rfl) ?_
        refine ro_nil ?_
        exact ⟨((IntKind.i64.wrap (i_7 + (1 : Int)))), _, arr (upd_step (upd_step (upd_step rfl rfl) rfl) rfl), h⟩
    · obtain ⟨w14, hw14, h⟩ := dr_open h
      refine wp_drawn 19 mixed rfl (by kernel_rfl) (by intro c a d v w h; cases d <;> exact h) hw14 (fun hD => ?_)
      refine rd_pure (i := 0) (d := (some 14)) hD (by kernel_rfl) (by kernel_rfl) rfl (.free rfl) rfl (fun _ => q_fieldAddr (a := a3) (off := 0) rfl Try.underlying28 rfl rfl ok25 (by decide) rfl) ?_
      refine rd_pure (i := 2) (d := (some 16)) hD (by kernel_rfl) (by kernel_rfl) rfl (.free rfl) rfl (fun _ => q_move (v := .int .i64 (i_7)) rfl rfl) ?_
      refine rd_pure (i := 6) (d := (some 20)) hD (by kernel_rfl) (by kernel_rfl) rfl (.free rfl) rfl (fun _ => q_fieldAddr (a := a5) (off := 1) rfl Try.underlying80 rfl rfl ok3 (by decide) rfl) ?_
      obtain ⟨x15, hx15, h⟩ := h
      refine rd_read (i := 1) (d := (some 15)) (fun W => (RdAt tSlc (a3.add 0) W) x15) hD (by kernel_rfl) (by kernel_rfl) rfl (.free rfl) rfl (fun W hr => q_load (T := tSlc) (u := x15) (a := (a3.add 0)) rfl ok25 rfl hr) hx15 ?_
      obtain ⟨a16, ha16, h⟩ := h
      refine rd_pure (i := 3) (d := (some 17)) hD (by kernel_rfl) (by kernel_rfl) rfl (.free rfl) rfl (fun _ => q_indexAddr (s := x15) (i := i_7) rfl Try.underlying25 ok80 rfl rfl ha16) ?_
      refine rd_pure (i := 4) (d := (some 18)) hD (by kernel_rfl) (by kernel_rfl) rfl (.free rfl) rfl (fun _ => q_fieldAddr (a := a16) (off := 1) rfl Try.underlying80 rfl rfl ok3 (by decide) rfl) ?_
      obtain ⟨x17, hx17, h⟩ := h
      refine rd_read (i := 5) (d := (some 19)) (fun W => (RdAt (tInt .i64) (a16.add 1) W) x17) hD (by kernel_rfl) (by kernel_rfl) rfl (.free rfl) rfl (fun W hr => q_load (T := (tInt .i64)) (u := x17) (a := (a16.add 1)) rfl ok3 rfl hr) hx17 ?_
      obtain ⟨x18, hx18, h⟩ := h
      refine rd_read (i := 7) (d := (some 21)) (fun W => (RdAt (tInt .i64) (a5.add 1) W) x18) hD (by kernel_rfl) (by kernel_rfl) rfl (.free rfl) rfl (fun W hr => q_load (T := (tInt .i64)) (u := x18) (a := (a5.add 1)) rfl ok3 rfl hr) hx18 ?_
      refine rd_pure (i := 8) (d := (some 22)) hD (by kernel_rfl) (by kernel_rfl) rfl (.free rfl) rfl (fun _ => q_eql (a := x17) (b := x18) rfl rfl rfl) ?_
      refine rd_pure (i := 9) (d := (some 23)) hD (by kernel_rfl) (by kernel_rfl) rfl (.free rfl) rfl (fun _ => q_move (v := .bool ((x17 == x18))) rfl rfl) ?_
      refine ro_if (b := (x17 == x18)) h (fun hb19 h => ?_) (fun hb19 h => ?_)
      · refine rd_pure (i := 10) (d := (some 24)) hD (by kernel_rfl) (by kernel_rfl) rfl (.by_ 9 true 23 (x17 == x18) rfl rfl rfl hb19) rfl (fun _ => q_fieldAddr (a := a3) (off := 0) rfl Try.underlying28 rfl rfl ok25 (by decide) rfl) ?_
        refine rd_pure (i := 12) (d := (some 26)) hD (by kernel_rfl) (by kernel_rfl) rfl (.by_ 9 true 23 (x17 == x18) rfl rfl rfl hb19) rfl (fun _ => q_move (v := .int .i64 (i_7)) rfl rfl) ?_
        obtain ⟨x20, hx20, h⟩ := h
        refine rd_read (i := 11) (d := (some 25)) (fun W => (RdAt tSlc (a3.add 0) W) x20) hD (by kernel_rfl) (by kernel_rfl) rfl (.by_ 9 true 23 (x17 == x18) rfl rfl rfl hb19) rfl (fun W hr => q_load (T := tSlc) (u := x20) (a := (a3.add 0)) rfl ok25 rfl hr) hx20 ?_
        obtain ⟨a21, ha21, h⟩ := h
        refine rd_pure (i := 13) (d := (some 27)) hD (by kernel_rfl) (by kernel_rfl) rfl (.by_ 9 true 23 (x17 == x18) rfl rfl rfl hb19) rfl (fun _ => q_indexAddr (s := x20) (i := i_7) rfl Try.underlying25 ok80 rfl rfl ha21) ?_
        obtain ⟨x22, hx22, h⟩ := h
        refine rd_read (i := 14) (d := (some 28)) (fun W => (RdAt T79 a21 W) x22) hD (by kernel_rfl) (by kernel_rfl) rfl (.by_ 9 true 23 (x17 == x18) rfl rfl rfl hb19) rfl (fun W hr => q_load (T := T79) (u := x22) (a := a21) rfl ok80 rfl hr) hx22 ?_
        obtain ⟨x23, hx23, h⟩ := h
        refine rd_read (i := 15) (d := (some 29)) (fun W => (RdAt T79 a5 W) x23) hD (by kernel_rfl) (by kernel_rfl) rfl (.by_ 9 true 23 (x17 == x18) rfl rfl rfl hb19) rfl (fun W hr => q_load (T := T79) (u := x23) (a := a5) rfl ok80 rfl hr) hx23 ?_
        refine rd_one (i := 16) (by kernel_rfl) ?_
        refine po_wp rfl (.by_ 9 true 23 (x17 == x18) rfl rfl rfl hb19) (wp_cl (d := (some 30)) rfl (q_call (k := 30) (l := [T79.enc (x22), T79.enc (x23)]) rfl ent30 rfl) h ?_)
        intro r25 w24 h
        obtain ⟨hk26, h⟩ := h
        obtain ⟨hk27, h⟩ := h
        obtain ⟨hk28, h⟩ := h
        obtain ⟨hk29, h⟩ := h
        refine ⟨(hk_wait (by kernel_rfl) (hk_wait (by kernel_rfl) (hk_keep (fun _ => hk29) (hk_keep (fun _ => hk28) (hk_keep (fun _ => hk27) (hk_keep (fun _ => hk26) hk_nil)))))), ?_⟩
        refine rd_pure (i := 17) (d := (some 31)) hD (by kernel_rfl) (by kernel_rfl) rfl (.by_ 9 true 23 (x17 == x18) rfl rfl rfl hb19) rfl (fun _ => q_not (b := r25) rfl rfl) ?_
        refine rd_pure (i := 18) (d := (some 32)) hD (by kernel_rfl) (by kernel_rfl) rfl (.free rfl) rfl (fun _ => q_pickT (v := .bool ((!r25))) (b := (x17 == x18)) rfl rfl hb19 rfl) ?_
        refine rd_nil (by kernel_rfl) ?_
        exact ⟨((!r25)), _, arr (upd_step (upd_step (upd_step (upd_step rfl rfl) rfl) rfl) rfl), h⟩
      · refine rd_bar (i := 10) (d := (some 24)) hD (by kernel_rfl) (by kernel_rfl) rfl (.by_ 9 true 23 (x17 == x18) rfl rfl rfl hb19) rfl ?_
        refine rd_bar (i := 12) (d := (some 26)) hD (by kernel_rfl) (by kernel_rfl) rfl (.by_ 9 true 23 (x17 == x18) rfl rfl rfl hb19) rfl ?_
        refine rd_bar (i := 11) (d := (some 25)) hD (by kernel_rfl) (by kernel_rfl) rfl (.by_ 9 true 23 (x17 == x18) rfl rfl rfl hb19) rfl ?_
        refine rd_bar (i := 13) (d := (some 27)) hD (by kernel_rfl) (by kernel_rfl) rfl (.by_ 9 true 23 (x17 == x18) rfl rfl rfl hb19) rfl ?_
        refine rd_bar (i := 14) (d := (some 28)) hD (by kernel_rfl) (by kernel_rfl) rfl (.by_ 9 true 23 (x17 == x18) rfl rfl rfl hb19) rfl ?_
        refine rd_bar (i := 15) (d := (some 29)) hD (by kernel_rfl) (by kernel_rfl) rfl (.by_ 9 true 23 (x17 == x18) rfl rfl rfl hb19) rfl ?_
        refine rd_one (i := 16) (by kernel_rfl) ?_
        refine po_bar (d := (some 30)) rfl (.by_ 9 true 23 (x17 == x18) rfl rfl rfl hb19) rfl ⟨fun _ _ _ h => h, ?_⟩
        refine rd_bar (i := 17) (d := (some 31)) hD (by kernel_rfl) (by kernel_rfl) rfl (.by_ 9 true 23 (x17 == x18) rfl rfl rfl hb19) rfl ?_
        refine rd_pure (i := 18) (d := (some 32)) hD (by kernel_rfl) (by kernel_rfl) rfl (.free rfl) rfl (fun _ => q_pickF (v := .bool (false)) (b := (x17 == x18)) rfl rfl hb19 rfl) ?_
        refine rd_nil (by kernel_rfl) ?_
        exact ⟨(false), _, arr (upd_step (upd_step (upd_step (upd_step rfl rfl) rfl) rfl) rfl), h⟩
  · refine wp_exit ?_
    refine wp_seq ?_
    refine wp_seq ?_
    refine wp_text [0] rfl ?_
    refine ro_val (d := (some 6)) rfl (.free rfl) rfl (q_assign (v := .int .i64 ((0 : Int))) rfl rfl) ?_
    refine ro_nil ?_
    refine wp_block ?_
    refine loop_at (σ := Int) (fr := fun g (s : Int) => upd (upd (upd (g) 2 (.pointer (some a3))) 3 (.pointer (some a5))) 6 (.int .i64 (s))) (s0 := ((0 : Int))) (upd_step (upd_step (upd_step rfl rfl) rfl) rfl) h ?_
    rintro i_30 g w31 K32 h
    unfold F43_l3 at h
    refine wp_seq ?_
    refine wp_seq ?_
    refine wp_text [0, 1, 2, 3, 4] rfl ?_
    refine ro_val (d := (some 33)) rfl (.free rfl) rfl (q_move (v := .int .i64 (i_30)) rfl rfl) ?_
    refine ro_val (d := (some 34)) rfl (.free rfl) rfl (q_fieldAddr (a := a3) (off := 1) rfl Try.underlying28 rfl rfl ok25 (by decide) rfl) ?_
    obtain ⟨x33, hx33, h⟩ := h
    refine ro_val (d := (some 35)) rfl (.free rfl) rfl (q_load (T := tSlc) (u := x33) (a := (a3.add 1)) rfl ok25 rfl hx33) ?_
    refine ro_val (d := (some 36)) rfl (.free rfl) rfl (q_len (s := x33) rfl Try.underlying25 rfl) ?_
    refine ro_val (d := (some 37)) rfl (.free rfl) rfl (q_lss (a := i_30) (b := (x33.len : Int)) rfl rfl rfl) ?_
    refine ro_nil ?_
    refine wp_if (b := (decide (i_30 < (x33.len : Int)))) rfl h (fun hb60 h => ?_) (fun hb60 h => ?_)
    · refine wp_skip ?_
      refine wp_seq ?_
      refine wp_block ?_
      refine seq_join (σ := Bool) (J := fun (s : Bool) w => F43_j4 i_30 s w K32 R) (fr := fun g (s : Bool) => upd (upd (upd (upd (g) 2 (.pointer (some a3))) 3 (.pointer (some a5))) 6 (.int .i64 (i_30))) 69 (.bool (s))) ?_ ?_
      · rintro t_34 g w35 h
        unfold F43_j4 at h
        refine wp_if (b := t_34) rfl h (fun hb36 h => ?_) (fun hb36 h => ?_)
        · refine wp_seq ?_
          refine wp_text [0] rfl ?_
          refine ro_val (d := (some 4)) rfl (.free rfl) rfl (q_assign (v := .bool (false)) rfl rfl) ?_
          refine ro_nil ?_
          refine wp_ret ?_
          exact ret_ok rfl (.cons (.tmp (v := .bool (false)) rfl) .nil) ⟨false, rfl, h⟩
        · refine wp_skip ?_
          refine wp_text [0, 1, 2] rfl ?_
          refine ro_val (d := (some 38)) rfl (.free rfl) rfl (q_move (v := .int .i64 (i_30)) rfl rfl) ?_
          refine ro_val (d := (some 39)) rfl (.free rfl) rfl (q_add (a := i_30) (b := (1 : Int)) rfl rfl rfl) ?_
          refine ro_val (d := (some 6)) rfl (.free rfl) rfl (q_assign (v := .int .i64 ((IntKind.i64.wrap (i_30 + (1 : Int))))) rfl rfl) ?_
          refine ro_nil ?_
          exact ⟨((IntKind.i64.wrap (i_30 + (1 : Int)))), _, arr (upd_step (upd_step (upd_step rfl rfl) rfl) rfl), h⟩
      · obtain ⟨w37, hw37, h⟩ := dr_open h
        refine wp_drawn 30 mixed rfl (by kernel_rfl) (by intro c a d v w h; cases d <;> exact h) hw37 (fun hD => ?_)
        refine rd_pure (i := 0) (d := (some 40)) hD (by kernel_rfl) (by kernel_rfl) rfl (.free rfl) rfl (fun _ => q_fieldAddr (a := a3) (off := 1) rfl Try.underlying28 rfl rfl ok25 (by decide) rfl) ?_
        refine rd_pure (i := 2) (d := (some 42)) hD (by kernel_rfl) (by kernel_rfl) rfl (.free rfl) rfl (fun _ => q_move (v := .int .i64 (i_30)) rfl rfl) ?_
        refine rd_pure (i := 6) (d := (some 46)) hD (by kernel_rfl) (by kernel_rfl) rfl (.free rfl) rfl (fun _ => q_fieldAddr (a := a5) (off := 1) rfl Try.underlying80 rfl rfl ok3 (by decide) rfl) ?_
        obtain ⟨x38, hx38, h⟩ := h
        refine rd_read (i := 1) (d := (some 41)) (fun W => (RdAt tSlc (a3.add 1) W) x38) hD (by kernel_rfl) (by kernel_rfl) rfl (.free rfl) rfl (fun W hr => q_load (T := tSlc) (u := x38) (a := (a3.add 1)) rfl ok25 rfl hr) hx38 ?_
        obtain ⟨a39, ha39, h⟩ := h
        refine rd_pure (i := 3) (d := (some 43)) hD (by kernel_rfl) (by kernel_rfl) rfl (.free rfl) rfl (fun _ => q_indexAddr (s := x38) (i := i_30) rfl Try.underlying25 ok80 rfl rfl ha39) ?_
        refine rd_pure (i := 4) (d := (some 44)) hD (by kernel_rfl) (by kernel_rfl) rfl (.free rfl) rfl (fun _ => q_fieldAddr (a := a39) (off := 1) rfl Try.underlying80 rfl rfl ok3 (by decide) rfl) ?_
        obtain ⟨x40, hx40, h⟩ := h
        refine rd_read (i := 5) (d := (some 45)) (fun W => (RdAt (tInt .i64) (a39.add 1) W) x40) hD (by kernel_rfl) (by kernel_rfl) rfl (.free rfl) rfl (fun W hr => q_load (T := (tInt .i64)) (u := x40) (a := (a39.add 1)) rfl ok3 rfl hr) hx40 ?_
        obtain ⟨x41, hx41, h⟩ := h
        refine rd_read (i := 7) (d := (some 47)) (fun W => (RdAt (tInt .i64) (a5.add 1) W) x41) hD (by kernel_rfl) (by kernel_rfl) rfl (.free rfl) rfl (fun W hr => q_load (T := (tInt .i64)) (u := x41) (a := (a5.add 1)) rfl ok3 rfl hr) hx41 ?_
        refine rd_pure (i := 8) (d := (some 48)) hD (by kernel_rfl) (by kernel_rfl) rfl (.free rfl) rfl (fun _ => q_eql (a := x40) (b := x41) rfl rfl rfl) ?_
        refine rd_pure (i := 9) (d := (some 49)) hD (by kernel_rfl) (by kernel_rfl) rfl (.free rfl) rfl (fun _ => q_move (v := .bool ((x40 == x41))) rfl rfl) ?_
        refine rd_gpure (i := 10) (g := (x40 == x41)) (d := (some 50)) hD (by kernel_rfl) (by kernel_rfl) rfl (.yes 9 49 true (x40 == x41) rfl rfl rfl rfl) rfl (fun hg _ => q_fieldAddr (a := a3) (off := 1) rfl Try.underlying28 rfl rfl ok25 (by decide) rfl) ?_
        refine rd_gpure (i := 12) (g := (x40 == x41)) (d := (some 52)) hD (by kernel_rfl) (by kernel_rfl) rfl (.yes 9 49 true (x40 == x41) rfl rfl rfl rfl) rfl (fun hg _ => q_move (v := .int .i64 (i_30)) rfl rfl) ?_
        refine rd_gpure (i := 16) (g := (x40 == x41)) (d := (some 56)) hD (by kernel_rfl) (by kernel_rfl) rfl (.yes 9 49 true (x40 == x41) rfl rfl rfl rfl) rfl (fun hg _ => q_fieldAddr (a := a5) (off := 0) rfl Try.underlying80 rfl rfl ok3 (by decide) rfl) ?_
        obtain ⟨x42, hx42, h⟩ := h
        refine rd_gread (i := 11) (g := (x40 == x41)) (d := (some 51)) (fun W => (RdAt tSlc (a3.add 1) W) x42) hD (by kernel_rfl) (by kernel_rfl) rfl (.yes 9 49 true (x40 == x41) rfl rfl rfl rfl) rfl (fun hg W hr => q_load (T := tSlc) (u := x42) (a := (a3.add 1)) rfl ok25 (gvb_yes hg) hr) hx42 ?_
        obtain ⟨a43, ha43, h⟩ := h
        refine rd_gpure (i := 13) (g := (x40 == x41)) (d := (some 53)) hD (by kernel_rfl) (by kernel_rfl) rfl (.yes 9 49 true (x40 == x41) rfl rfl rfl rfl) rfl (fun hg _ => q_indexAddr (s := x42) (i := i_30) rfl Try.underlying25 ok80 (gvb_yes hg) (gvb_yes hg) (ha43 hg)) ?_
        refine rd_gpure (i := 14) (g := (x40 == x41)) (d := (some 54)) hD (by kernel_rfl) (by kernel_rfl) rfl (.yes 9 49 true (x40 == x41) rfl rfl rfl rfl) rfl (fun hg _ => q_fieldAddr (a := a43) (off := 0) rfl Try.underlying80 rfl rfl ok3 (by decide) (gvb_yes hg)) ?_
        obtain ⟨x44, hx44, h⟩ := h
        refine rd_gread (i := 15) (g := (x40 == x41)) (d := (some 55)) (fun W => (RdAt (tInt .i64) (a43.add 0) W) x44) hD (by kernel_rfl) (by kernel_rfl) rfl (.yes 9 49 true (x40 == x41) rfl rfl rfl rfl) rfl (fun hg W hr => q_load (T := (tInt .i64)) (u := x44) (a := (a43.add 0)) rfl ok3 (gvb_yes hg) hr) hx44 ?_
        obtain ⟨x45, hx45, h⟩ := h
        refine rd_gread (i := 17) (g := (x40 == x41)) (d := (some 57)) (fun W => (RdAt (tInt .i64) (a5.add 0) W) x45) hD (by kernel_rfl) (by kernel_rfl) rfl (.yes 9 49 true (x40 == x41) rfl rfl rfl rfl) rfl (fun hg W hr => q_load (T := (tInt .i64)) (u := x45) (a := (a5.add 0)) rfl ok3 (gvb_yes hg) hr) hx45 ?_
        refine rd_gpure (i := 18) (g := (x40 == x41)) (d := (some 58)) hD (by kernel_rfl) (by kernel_rfl) rfl (.yes 9 49 true (x40 == x41) rfl rfl rfl rfl) rfl (fun hg _ => q_lss (a := x44) (b := x45) rfl (gvb_yes hg) (gvb_yes hg)) ?_
        refine rd_pure (i := 19) (d := (some 59)) hD (by kernel_rfl) (by kernel_rfl) rfl (.free rfl) rfl (fun _ => q_pickGT (a := (x40 == x41)) (b := (decide (x44 < x45))) rfl rfl rfl rfl) ?_
        refine rd_pure (i := 20) (d := (some 60)) hD (by kernel_rfl) (by kernel_rfl) rfl (.free rfl) rfl (fun _ => q_move (v := .bool (((x40 == x41) && (decide (x44 < x45))))) rfl rfl) ?_
        refine ro_if (b := ((x40 == x41) && (decide (x44 < x45)))) h (fun hb46 h => ?_) (fun hb46 h => ?_)
        · refine rd_pure (i := 21) (d := (some 61)) hD (by kernel_rfl) (by kernel_rfl) rfl (.by_ 20 true 60 ((x40 == x41) && (decide (x44 < x45))) rfl rfl rfl hb46) rfl (fun _ => q_fieldAddr (a := a3) (off := 1) rfl Try.underlying28 rfl rfl ok25 (by decide) rfl) ?_
          refine rd_pure (i := 23) (d := (some 63)) hD (by kernel_rfl) (by kernel_rfl) rfl (.by_ 20 true 60 ((x40 == x41) && (decide (x44 < x45))) rfl rfl rfl hb46) rfl (fun _ => q_move (v := .int .i64 (i_30)) rfl rfl) ?_
          obtain ⟨x47, hx47, h⟩ := h
          refine rd_read (i := 22) (d := (some 62)) (fun W => (RdAt tSlc (a3.add 1) W) x47) hD (by kernel_rfl) (by kernel_rfl) rfl (.by_ 20 true 60 ((x40 == x41) && (decide (x44 < x45))) rfl rfl rfl hb46) rfl (fun W hr => q_load (T := tSlc) (u := x47) (a := (a3.add 1)) rfl ok25 rfl hr) hx47 ?_
          obtain ⟨a48, ha48, h⟩ := h
          refine rd_pure (i := 24) (d := (some 64)) hD (by kernel_rfl) (by kernel_rfl) rfl (.by_ 20 true 60 ((x40 == x41) && (decide (x44 < x45))) rfl rfl rfl hb46) rfl (fun _ => q_indexAddr (s := x47) (i := i_30) rfl Try.underlying25 ok80 rfl rfl ha48) ?_
          obtain ⟨x49, hx49, h⟩ := h
          refine rd_read (i := 25) (d := (some 65)) (fun W => (RdAt T79 a48 W) x49) hD (by kernel_rfl) (by kernel_rfl) rfl (.by_ 20 true 60 ((x40 == x41) && (decide (x44 < x45))) rfl rfl rfl hb46) rfl (fun W hr => q_load (T := T79) (u := x49) (a := a48) rfl ok80 rfl hr) hx49 ?_
          obtain ⟨x50, hx50, h⟩ := h
          refine rd_read (i := 26) (d := (some 66)) (fun W => (RdAt T79 a5 W) x50) hD (by kernel_rfl) (by kernel_rfl) rfl (.by_ 20 true 60 ((x40 == x41) && (decide (x44 < x45))) rfl rfl rfl hb46) rfl (fun W hr => q_load (T := T79) (u := x50) (a := a5) rfl ok80 rfl hr) hx50 ?_
          refine rd_one (i := 27) (by kernel_rfl) ?_
          refine po_wp rfl (.by_ 20 true 60 ((x40 == x41) && (decide (x44 < x45))) rfl rfl rfl hb46) (wp_cl (d := (some 67)) rfl (q_call (k := 30) (l := [T79.enc (x49), T79.enc (x50)]) rfl ent30 rfl) h ?_)
          intro r52 w51 h
          obtain ⟨hk53, h⟩ := h
          obtain ⟨hk54, h⟩ := h
          obtain ⟨hk55, h⟩ := h
          obtain ⟨hk56, h⟩ := h
          obtain ⟨hk57, h⟩ := h
          obtain ⟨hk58, h⟩ := h
          obtain ⟨hk59, h⟩ := h
          refine ⟨(hk_wait (by kernel_rfl) (hk_wait (by kernel_rfl) (hk_keep (fun _ => hk59) (hk_keep (fun _ => hk58) (hk_keep (fun _ => hk57) (hk_keep (fun _ => hk56) (hk_keep (fun _ => hk55) (hk_keep (fun _ => hk54) (hk_keep (fun _ => hk53) hk_nil))))))))), ?_⟩
          refine rd_pure (i := 28) (d := (some 68)) hD (by kernel_rfl) (by kernel_rfl) rfl (.by_ 20 true 60 ((x40 == x41) && (decide (x44 < x45))) rfl rfl rfl hb46) rfl (fun _ => q_not (b := r52) rfl rfl) ?_
          refine rd_pure (i := 29) (d := (some 69)) hD (by kernel_rfl) (by kernel_rfl) rfl (.free rfl) rfl (fun _ => q_pickT (v := .bool ((!r52))) (b := ((x40 == x41) && (decide (x44 < x45)))) rfl rfl hb46 rfl) ?_
          refine rd_nil (by kernel_rfl) ?_
          exact ⟨((!r52)), _, arr (upd_step (upd_step (upd_step (upd_step rfl rfl) rfl) rfl) rfl), h⟩
        · refine rd_bar (i := 21) (d := (some 61)) hD (by kernel_rfl) (by kernel_rfl) rfl (.by_ 20 true 60 ((x40 == x41) && (decide (x44 < x45))) rfl rfl rfl hb46) rfl ?_
          refine rd_bar (i := 23) (d := (some 63)) hD (by kernel_rfl) (by kernel_rfl) rfl (.by_ 20 true 60 ((x40 == x41) && (decide (x44 < x45))) rfl rfl rfl hb46) rfl ?_
          refine rd_bar (i := 22) (d := (some 62)) hD (by kernel_rfl) (by kernel_rfl) rfl (.by_ 20 true 60 ((x40 == x41) && (decide (x44 < x45))) rfl rfl rfl hb46) rfl ?_
          refine rd_bar (i := 24) (d := (some 64)) hD (by kernel_rfl) (by kernel_rfl) rfl (.by_ 20 true 60 ((x40 == x41) && (decide (x44 < x45))) rfl rfl rfl hb46) rfl ?_
          refine rd_bar (i := 25) (d := (some 65)) hD (by kernel_rfl) (by kernel_rfl) rfl (.by_ 20 true 60 ((x40 == x41) && (decide (x44 < x45))) rfl rfl rfl hb46) rfl ?_
          refine rd_bar (i := 26) (d := (some 66)) hD (by kernel_rfl) (by kernel_rfl) rfl (.by_ 20 true 60 ((x40 == x41) && (decide (x44 < x45))) rfl rfl rfl hb46) rfl ?_
          refine rd_one (i := 27) (by kernel_rfl) ?_
          refine po_bar (d := (some 67)) rfl (.by_ 20 true 60 ((x40 == x41) && (decide (x44 < x45))) rfl rfl rfl hb46) rfl ⟨fun _ _ _ h => h, ?_⟩
          refine rd_bar (i := 28) (d := (some 68)) hD (by kernel_rfl) (by kernel_rfl) rfl (.by_ 20 true 60 ((x40 == x41) && (decide (x44 < x45))) rfl rfl rfl hb46) rfl ?_
          refine rd_pure (i := 29) (d := (some 69)) hD (by kernel_rfl) (by kernel_rfl) rfl (.free rfl) rfl (fun _ => q_pickF (v := .bool (false)) (b := ((x40 == x41) && (decide (x44 < x45)))) rfl rfl hb46 rfl) ?_
          refine rd_nil (by kernel_rfl) ?_
          exact ⟨(false), _, arr (upd_step (upd_step (upd_step (upd_step rfl rfl) rfl) rfl) rfl), h⟩
    · refine wp_exit ?_
      refine wp_seq ?_
      refine wp_text [0] rfl ?_
      refine ro_val (d := (some 4)) rfl (.free rfl) rfl (q_assign (v := .bool (true)) rfl rfl) ?_
      refine ro_nil ?_
      refine wp_ret ?_
      exact ret_ok rfl (.cons (.tmp (v := .bool (true)) rfl) .nil) ⟨true, rfl, h⟩

end Go.Proofs.Ytojcgejjdfcaaaa.Cf
